/-
  toks.Read, whatever comes in; tokens as a row of cells.
  The walk of firkinref10.Same.
-/
import Derived.Test.YtloakdiioaodaaaDoorToksRd

namespace Go.Proofs.YtloakdiioaodaaaDoor.Huff
open Go.RowKit Go.Proofs.YtloakdiioaodaaaDoor.Mem Go.Proofs.YtloakdiioaodaaaDoor.Canon Go.Proofs.YtloakdiioaodaaaDoor.Own
open Go.Proofs.YtloakdiioaodaaaDoor.Toks (Tk Pc joinT joinE pw mayB)

theorem toksGo_len (ls lf : List Nat) (bs : List Bool) : ∀ (f : Nat) (most : Int) (out : List Tk) (at_ : Nat), (toksGo ls lf bs f most out at_).1.length ≤ out.length + f
  | 0, _, _, _ => by rw [toksGo]; simp
  | f + 1, most, out, at_ => by
    rw [toksGo]
    split
    · simp
    · split
      · split
        · show out.length ≤ _; omega
        · simp
      · split
        · simp
        · have := toksGo_len ls lf bs f (most - max 1 (tokenR ls lf bs at_).1.len) (out ++ [(tokenR ls lf bs at_).1]) (tokenR ls lf bs at_).2.2.2
          rw [List.length_append, List.length_singleton] at this
          omega
theorem readToks_len (lb : List Nat) (most : Int) : (readToks lb most).1.length ≤ 8 * lb.length + 1 := by
  unfold readToks
  split
  · simp
  · split
    · simp
    · split
      · simp
      · have := toksGo_len (readGo (rbits lb) 265 266 [] false 0).1 (readGo (rbits lb) 12 13 [] false (readGo (rbits lb) 265 266 [] false 0).2.2).1 (rbits lb) ((rbits lb).length + 1) most [] (readGo (rbits lb) 12 13 [] false (readGo (rbits lb) 265 266 [] false 0).2.2).2.2
        rw [rbits_length] at this
        rw [rbits_length]
        simp at this
        omega
def tkd : Tk := ⟨0, 0, 0⟩
def tkF (ts : List Tk) : Nat → Nat → Value := fun i j => match j with
  | 0 => .int .u8 (ts.getD i tkd).lit
  | 1 => .int .i64 (ts.getD i tkd).len
  | _ => .int .i64 (ts.getD i tkd).dist
theorem tksL_get : ∀ (ts : List Tk) (i j : Nat), i < ts.length → j < 3 → (tksL ts)[i * 3 + j]? = some (tkF ts i j)
  | [], i, j, h, _ => by simp at h
  | t :: ts, 0, j, _, hj => by
    obtain rfl | rfl | rfl : j = 0 ∨ j = 1 ∨ j = 2 := by omega
    all_goals rfl
  | t :: ts, i + 1, j, h, hj => by
    have := tksL_get ts i j (by simpa using h) hj
    show (_ :: _ :: _ :: tksL ts)[(i + 1) * 3 + j]? = _
    rw [show (i + 1) * 3 + j = (i * 3 + j) + 1 + 1 + 1 by omega, List.getElem?_cons_succ, List.getElem?_cons_succ, List.getElem?_cons_succ, this]
    rfl
theorem sizeT_le : ∀ (ts : List Tk), (∀ t ∈ ts, MayTk t) → sizeT ts ≤ 257 * ts.length ∧ (ts.length : Int) ≤ sizeT ts
  | [], _ => by simp [sizeT]
  | t :: ts, h => by
    have := sizeT_le ts (fun u hu => h u (by simp [hu]))
    obtain ⟨_, _, h3, h4⟩ := h t (by simp)
    rw [sizeT, List.length_cons]
    omega
theorem tread_all (w : World) (A : Option Addr) (n c : Nat) (lb : List Nat) (most : Int) (hm : -9223372036854775808 ≤ most ∧ most ≤ 9223372036854775807) (hn : lb.length = n) (hN : n ≤ 100000) (h8 : ∀ x ∈ lb, x ≤ 255) (hnil : A = none → n = 0 ∧ c = 0) (ha : Row w w.heap.size A n 1 (numF .u8 lb)) :
    Calls Tryd.prog 62 #[.slice A n c, .int .i64 most] w (TRPost (readToks lb most) w) := by
  by_cases h : most < 0
  · exact tread_neg w _ lb most hm.1 h
  · exact tread_any w A n c lb most (by omega) hm.2 hn hN h8 hnil ha

end Go.Proofs.YtloakdiioaodaaaDoor.Huff

namespace Go.Proofs.YtloakdiioaodaaaDoor.Huff
open Go.RowKit Go.Proofs.YtloakdiioaodaaaDoor.Mem Go.Proofs.YtloakdiioaodaaaDoor.Canon Go.Proofs.YtloakdiioaodaaaDoor.Own
open Go.Proofs.YtloakdiioaodaaaDoor.Toks (Tk Pc)

end Go.Proofs.YtloakdiioaodaaaDoor.Huff
