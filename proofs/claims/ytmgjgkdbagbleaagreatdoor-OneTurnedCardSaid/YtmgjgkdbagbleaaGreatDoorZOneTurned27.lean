/-
  The walk of the reference's Same: two lists of bytes, held together as texts.
-/
import Derived.Test.YtmgjgkdbagbleaaGreatDoorZOneTurned5
import Derived.Laws.BytesArg
import Derived.Laws.Strings
namespace Go.Proofs.YtmgjgkdbagbleaaGreatDoor.Huff
open Go.RowKit Go.Proofs.YtmgjgkdbagbleaaGreatDoor.Mem Go.Proofs.YtmgjgkdbagbleaaGreatDoor.Canon
def strB (ls : List Nat) : ByteArray := strOfNums (ls.map fun x => ((x : Nat) : Int))
theorem text_eq (x y : ByteArray) : (x.toList == y.toList) = true ↔ x = y := by
  rw [beq_iff_eq, ByteArray.toList_eq, ByteArray.toList_eq]
  constructor
  · intro h
    exact ByteArray.ext (Array.toList_inj.1 h)
  · intro h; rw [h]
theorem strB_inj {a b : List Nat} (ha : ∀ x ∈ a, x ≤ 255) (hb : ∀ x ∈ b, x ≤ 255) (h : strB a = strB b) : a = b := by
  have h := congrArg (fun s : ByteArray => s.data.toList) h
  simp only [strB, strOfNums_data, List.map_map] at h
  have e : ∀ l : List Nat, (∀ x ∈ l, x ≤ 255) → (l.map ((fun n : Int => UInt8.ofNat n.toNat) ∘ fun x : Nat => (x : Int))).map UInt8.toNat = l := by
    intro l hl
    rw [List.map_map]
    conv => rhs; rw [← List.map_id l]
    apply List.map_congr_left
    intro x hx
    have := hl x hx
    simp
    omega
  rw [← e a ha, ← e b hb, h]
theorem strB_beq {a b : List Nat} (ha : ∀ x ∈ a, x ≤ 255) (hb : ∀ x ∈ b, x ≤ 255) : ((strB a).toList == (strB b).toList) = decide (a = b) := by
  by_cases h : a = b
  · subst h
    rw [decide_eq_true rfl]
    exact (text_eq _ _).2 rfl
  · rw [decide_eq_false h]
    cases e : (strB a).toList == (strB b).toList
    · rfl
    · exact absurd (strB_inj ha hb ((text_eq _ _).1 e)) h
theorem conv_str {w : World} {B : Nat} {A : Option Addr} {n c : Nat} {ls : List Nat} (hn : ls.length = n) (ha : Row w B A n 1 (numF .u8 ls)) (hnil : A = none → n = 0) :
    (convert 22 9 (.slice A n c)).run Tryz.prog w = .ok (.string (strB ls)) w := by
  cases A with
  | none =>
    obtain rfl := hnil rfl
    have hl : ls = [] := List.eq_nil_of_length_eq_zero hn
    subst hl
    exact run_convert_bytes_nil w 22 5 Tryz.underlying22 Tryz.underlying5 0 c 9 Tryz.underlying9
  | some ad =>
    obtain ⟨b, off, spot⟩ := ad
    by_cases h0 : n = 0
    · subst h0
      have hl : ls = [] := List.eq_nil_of_length_eq_zero hn
      subst hl
      have h0 : (loadCells ⟨b, off, spot⟩ 0).run Tryz.prog w = .ok (([] : List Int).map (Value.int .u8)).toArray w := by
        have := run_loadCells_list (P := Tryz.prog) w ⟨b, off, spot⟩ [] (fun j v hj => by simp at hj)
        simpa using this
      rw [run_convert_bytes_string w 22 9 5 _ 0 c Tryz.underlying22 Tryz.underlying5 Tryz.underlying9, run_bytesToString w _ 0 c [] h0, List.foldl_nil]
      have e : strB [] = ByteArray.empty := rfl
      rw [e]
    · obtain ⟨b', off', e, hb, hc⟩ := ha (by omega)
      simp only [Option.some.injEq, Addr.mk.injEq] at e
      obtain ⟨rfl, rfl, rfl⟩ := e
      refine run_convert_bytes_arg w 22 5 Tryz.underlying22 Tryz.underlying5 b off n c _ (by simpa using hn) (fun i hi => ?_) 9 Tryz.underlying9
      have := hc i 0 hi (by omega)
      rw [Nat.mul_one, Nat.add_zero] at this
      rw [this]
      unfold numF
      congr 2
      simp [List.getD_eq_getElem?_getD, show i < ls.length by omega]
set_option maxRecDepth 100000 in
theorem same_any (w : World) (A B : Option Addr) (n m c d : Nat) (la lb : List Nat) (hn : la.length = n) (hm : lb.length = m) (hA : A = none → n = 0) (hB : B = none → m = 0)
    (ha8 : ∀ x ∈ la, x ≤ 255) (hb8 : ∀ x ∈ lb, x ≤ 255) (ha : Row w w.heap.size A n 1 (numF .u8 la)) (hb : Row w w.heap.size B m 1 (numF .u8 lb)) :
    Calls Tryz.prog 29 #[.slice A n c, .slice B m d] w fun e w' => e = .returned (.bool (decide (la = lb))) ∧ w = w' := by
  have p1 := conv_str (c := c) hn ha hA
  have p2 := conv_str (c := d) hm hb hB
  have HE := Lib.hid (strB_beq ha8 hb8)
  clear hn hm hA hB ha8 hb8 ha hb
  go_enter Tryz.func29, Tryz.ntmps29
  go_wp2_with fail
  go_ret
  exact ⟨by simp [HE.out], rfl⟩
end Go.Proofs.YtmgjgkdbagbleaaGreatDoor.Huff
