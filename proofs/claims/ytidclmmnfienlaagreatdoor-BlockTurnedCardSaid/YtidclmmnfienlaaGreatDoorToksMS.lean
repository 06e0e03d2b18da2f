/-
  toks.Read, whatever comes in; tokens as a row of cells.
  The walk of firkinref10.Same.
-/
import Derived.Test.YtidclmmnfienlaaGreatDoorToksRd

namespace Go.Proofs.YtidclmmnfienlaaGreatDoor.Huff
open Go.RowKit Go.Proofs.YtidclmmnfienlaaGreatDoor.Mem Go.Proofs.YtidclmmnfienlaaGreatDoor.Canon Go.Proofs.YtidclmmnfienlaaGreatDoor.Own
open Go.Proofs.YtidclmmnfienlaaGreatDoor.Toks (Tk Pc joinT joinE pw mayB)

theorem toksGo_len (ls lf : List Nat) (bs : List Bool) : ∀ (f : Nat) (most : Int) (out : List Tk) (at_ : Nat), (toksGo ls lf bs f most out at_).1.length ≤ out.length + f
  | 0, _, _, _ => by rw [toksGo]; simp
  | f + 1, most, out, at_ => by
    rw [toksGo]
    split
    · simp
    · split
      · split
        · show out.length ≤ _; omega
        · simp
      · split
        · simp
        · have := toksGo_len ls lf bs f (most - max 1 (tokenR ls lf bs at_).1.len) (out ++ [(tokenR ls lf bs at_).1]) (tokenR ls lf bs at_).2.2.2
          rw [List.length_append, List.length_singleton] at this
          omega
theorem readToks_len (lb : List Nat) (most : Int) : (readToks lb most).1.length ≤ 8 * lb.length + 1 := by
  unfold readToks
  split
  · simp
  · split
    · simp
    · split
      · simp
      · have := toksGo_len (readGo (rbits lb) 265 266 [] false 0).1 (readGo (rbits lb) 12 13 [] false (readGo (rbits lb) 265 266 [] false 0).2.2).1 (rbits lb) ((rbits lb).length + 1) most [] (readGo (rbits lb) 12 13 [] false (readGo (rbits lb) 265 266 [] false 0).2.2).2.2
        rw [rbits_length] at this
        rw [rbits_length]
        simp at this
        omega
theorem sizeT_le : ∀ (ts : List Tk), (∀ t ∈ ts, MayTk t) → sizeT ts ≤ 257 * ts.length ∧ (ts.length : Int) ≤ sizeT ts
  | [], _ => by simp [sizeT]
  | t :: ts, h => by
    have := sizeT_le ts (fun u hu => h u (by simp [hu]))
    obtain ⟨_, _, h3, h4⟩ := h t (by simp)
    rw [sizeT, List.length_cons]
    omega
theorem tread_all (w : World) (A : Option Addr) (n c : Nat) (lb : List Nat) (most : Int) (hm : -9223372036854775808 ≤ most ∧ most ≤ 9223372036854775807) (hn : lb.length = n) (hN : n ≤ 100000) (h8 : ∀ x ∈ lb, x ≤ 255) (hnil : A = none → n = 0 ∧ c = 0) (ha : Row w w.heap.size A n 1 (numF .u8 lb)) :
    Calls Tryz.prog 112 #[.slice A n c, .int .i64 most] w (TRPost (readToks lb most) w) := by
  by_cases h : most < 0
  · exact tread_neg w _ lb most hm.1 h
  · exact tread_any w A n c lb most (by omega) hm.2 hn hN h8 hnil ha

end Go.Proofs.YtidclmmnfienlaaGreatDoor.Huff

namespace Go.Proofs.YtidclmmnfienlaaGreatDoor.Huff
open Go.RowKit Go.Proofs.YtidclmmnfienlaaGreatDoor.Mem Go.Proofs.YtidclmmnfienlaaGreatDoor.Canon Go.Proofs.YtidclmmnfienlaaGreatDoor.Own
open Go.Proofs.YtidclmmnfienlaaGreatDoor.Toks (Tk Pc)

end Go.Proofs.YtidclmmnfienlaaGreatDoor.Huff
