/-
  The walk of huff.Pack.
-/
import Derived.Test.YtdfpcnldfibceaaCoderPut
import Derived.Test.YtdfpcnldfibceaaBitsBytes
import Derived.Test.YtdfpcnldfibceaaOpenNums
namespace Go.Proofs.Ytdfpcnldfibceaa.Huff
open Go.RowKit Go.Proofs.Ytdfpcnldfibceaa.Mem Go.Proofs.Ytdfpcnldfibceaa.Canon Go.Proofs.Ytdfpcnldfibceaa.Own Go.Proofs.Ytdfpcnldfibceaa.Open

/-- The error of packing, and the bytes. -/
def packE (ls : List Nat) (ss : List Int) : Int := if okB ls = true then (if ss.all (fun s => lenAt ls s ≠ 0) = true then 0 else 13) else 7
def packB (ls : List Nat) (ss : List Int) : List Nat := if packE ls ss = 0 then bytesOf (packed ls ss) else []
def PackPost (ls : List Nat) (ss : List Int) (w : World) (e : Ending) (w' : World) : Prop :=
  ∃ v, e = .returned (.tuple #[v, .int .i64 (packE ls ss)]) ∧ w'.ownsRow w.heap.size 5 1 v (packB ls ss).length (numL .u8 (packB ls ss)) ∧ Below w.heap.size w w'

/-- One cell of a row of integers. -/
theorem int_cell {w : World} {B n : Nat} {A : Option Addr} {k : IntKind} {ls : List Int} (h : Row w B A n 1 (intF k ls)) (hn : ls.length = n) {i : Nat} (hi : i < n) :
    ∃ b off x, A = some ⟨b, off, none⟩ ∧ b < B ∧ ls[i]? = some x ∧ w.cell? ⟨b, off + i, none⟩ = some (.int k x) := by
  obtain ⟨b, off, e, hb, hc⟩ := h (by omega)
  have hl : i < ls.length := by omega
  have h1 := hc i 0 hi (by omega)
  simp only [intF, Nat.mul_one, Nat.add_zero, List.getD_eq_getElem?_getD, List.getElem?_eq_getElem hl, Option.getD_some] at h1
  exact ⟨b, off, ls[i], e, hb, List.getElem?_eq_getElem hl, h1⟩

theorem Wr.start {K : Nat → Prop} (w : World) (t : TypeId) (hK : ∀ k, K k → k < w.heap.size) : Wr K (w.alloc (.cells #[.slice none 0 0, .int .i64 0] t)) (w.heap.size + 1) w.heap.size t [] [] (.slice none 0 0) := by
  refine ⟨Blk.made _ _ _, World.ownsRow_nil _ _ _ _, (fun h => by cases h), by simp, (fun h => by have := hK _ h; omega), (fun x h => by cases h), fun k h => by have := hK k h; simp; omega⟩
theorem packE_some {ls : List Nat} {ss : List Int} {s : Int} (hok : okB ls = true) (hs : s ∈ ss) (h0 : lenAt ls s = 0) : packE ls ss = 13 := by
  unfold packE
  rw [if_pos hok, if_neg]
  intro h
  rw [List.all_eq_true] at h
  have := h s hs
  simp [h0] at this
theorem packE_none {ls : List Nat} {ss : List Int} (hok : okB ls = true) (h : ∀ s ∈ ss, lenAt ls s ≠ 0) : packE ls ss = 0 := by
  unfold packE
  rw [if_pos hok, if_pos]
  rw [List.all_eq_true]
  intro s hs
  simpa using h s hs
/-- What a writer owns, as a row. -/
theorem Wr.rowOf {K : Nat → Prop} {w : World} {base g c : Nat} {t : TypeId} {rest : List Value} {bs : List Bool} {A : Option Addr} {n : Nat} (h : Wr K w base g t rest bs (.slice A n c)) : (bytesOf bs).length = n ∧ Row w w.heap.size A n 1 (numF .u8 (bytesOf bs)) ∧ (A = none → n = 0 ∧ c = 0) := by
  have ho := h.own
  have hn : (bytesOf bs).length = n := by
    rcases ho.2 with ⟨hv, hx⟩ | ⟨g, cap, cur, hv, _⟩
    · injection hv with _ e _
      exact hx.trans e.symm
    · injection hv with _ e _
      exact e.symm
  rw [hn] at ho
  exact ⟨hn, Row.of_own ho rfl (fun i j hi hj => by have e0 : j = 0 := (by omega); subst e0; exact numL_get (by omega)), (own_wf ho).1⟩

set_option maxRecDepth 100000 in
theorem pack_bad (w : World) (A : Option Addr) (n c : Nat) (ls : List Nat) (ss : List Int) (u : Value) (hn : ls.length = n) (hN : n ≤ 9223372036854775807) (hok : okB ls = false) (ha : Row w w.heap.size A n 1 (numF .u8 ls)) :
    Calls Try.prog 48 #[.slice A n c, u] w (PackPost ls ss w) := by
  have hE : packE ls ss = 7 := by unfold packE; rw [hok]; rfl
  have hB : packB ls ss = [] := by unfold packB; rw [hE]; rfl
  unfold PackPost
  rw [hE, hB]
  have C := Lib.hid (new_bad w A n c ls hn hN hok ha)
  clear hn hok hE hB
  go_enter Try.func48, Try.ntmps48
  go_wp2_with fail
  refine C.out.mono ?_
  rintro e w1 ⟨rfl, hb1⟩
  go_wp2_with fail
  go_ret2
  exact ⟨_, rfl, World.ownsRow_nil _ _ _ _, hb1⟩

set_option maxHeartbeats 1000000 in
set_option maxRecDepth 100000 in
theorem pack_any (w : World) (A B : Option Addr) (n c m d : Nat) (ls : List Nat) (ss : List Int) (hn : ls.length = n) (hok : okB ls = true) (hnil : A = none → n = 0 ∧ c = 0) (ha : Row w w.heap.size A n 1 (numF .u8 ls))
    (hm : ss.length = m) (hM : m ≤ 3000) (hss : ∀ s ∈ ss, -9223372036854775808 ≤ s ∧ s ≤ 9223372036854775807) (hb : Row w w.heap.size B m 1 (intF .i64 ss)) :
    Calls Try.prog 48 #[.slice A n c, .slice B m d] w (PackPost ls ss w) := by
  obtain ⟨_, hsm, _⟩ := ok_parts hok
  have C := Lib.hid (new_any w A n c ls hn hok hnil ha)
  have HM := Lib.hid hm
  have HOK := Lib.hid hok
  have HSM := Lib.hid hsm
  have HSS := Lib.hid hss
  clear hn hok hsm hss hnil hm
  go_enter Try.func48, Try.ntmps48
  go_wp2_with fail
  refine C.out.mono ?_
  rintro e w1 ⟨gc, rfl, hC, hb1⟩
  have z1 := hb1.size
  have hrow := (hb.below hb1).mono z1
  have HC := Lib.hid hC
  clear hC C hb
  go_wp2_with fail
  go_loopw [22] (fun i wr => ∃ (k : Nat) (v : Value), k ≤ m ∧ i = .int .i64 k ∧ Hid (Wr (fun x => x < w1.heap.size) wr (w1.heap.size + 1) w1.heap.size 86 [] (packed ls (ss.take k)) v) ∧ Hid (∀ s ∈ ss.take k, lenAt ls s ≠ 0) ∧ Kept (fun x => x < w1.heap.size) w1 wr) (fun i _ => m - (intOf i).toNat)
  case atStart => exact ⟨0, .slice none 0 0, by omega, rfl, Wr.start w1 _ (fun _ h => h), (fun s hs => by simp at hs), (Kept.refl _ w1).alloc (fun _ h => h) _⟩
  case round =>
    obtain ⟨k, v, hk, rfl, hW, hall, hkp⟩ := hrel
    by_cases hlt : k < m
    · have hrow2 : Row wr w1.heap.size B m 1 (intF .i64 ss) := hrow.keep fun p hp => World.cell?_of_block (hkp.block p.block hp)
      obtain ⟨b, off, s, rfl, hbb, hs, c0⟩ := int_cell hrow2 HM.out hlt
      have hmem := List.mem_of_getElem? hs
      have hbd := HSS.out s hmem
      have x0 : (0 : Int) ≤ (k : Int) := by omega
      have x1 : (k : Int) < (m : Int) := by omega
      have hCk := HC.out.kept hkp (fun _ _ h => h)
      have htk := take_snoc hs
      have HTK := Lib.hid htk
      have HMEM := Lib.hid hmem
      clear hs hmem htk hrow2
      by_cases h0 : lenAt ls s = 0
      · have C2 := Lib.hid (cput_none wr w.heap.size w1.heap.size gc ls w1.heap.size s hbd HSM.out hCk h0)
        have hE := packE_some HOK.out HMEM.out h0
        have hB : packB ls ss = [] := by unfold packB; rw [hE]; rfl
        unfold PackPost
        rw [hE, hB]
        clear h0 hE hB hCk
        go_wp2_with fail
        refine C2.out.mono ?_
        rintro e w3 ⟨rfl, rfl⟩
        go_wp2_with fail
        go_ret2
        exact ⟨_, rfl, World.ownsRow_nil _ _ _ _, bel_step (hkp.below (fun _ h => h)) z1 hb1⟩
      · have hpl := packed_length ls HSM.out (ss.take k)
        rw [List.length_take] at hpl
        have C2 := Lib.hid (cput_any (fun x => x < w1.heap.size) wr w.heap.size w1.heap.size gc ls w1.heap.size (w1.heap.size + 1) 86 [] v (packed ls (ss.take k)) s hbd HOK.out hCk (fun _ _ h => h) h0 (by omega) hW.out)
        rw [← packed_snoc, ← HTK.out] at C2
        have HA2 : Hid (∀ s ∈ ss.take (k + 1), lenAt ls s ≠ 0) := by
          show ∀ s ∈ ss.take (k + 1), lenAt ls s ≠ 0
          intro z hz
          rw [HTK.out, List.mem_append, List.mem_singleton] at hz
          rcases hz with hz | rfl
          · exact hall.out z hz
          · exact h0
        clear h0 hCk hW hpl
        go_wp2_with fail
        refine C2.out.mono ?_
        rintro e w3 ⟨rfl, v2, hW2, hk2⟩
        have HW2 := Lib.hid hW2
        clear hW2
        go_wp2_with fail
        go_roundw
        case measure => go_light; simp [intOf]; omega
        case rel =>
          go_light
          exact ⟨k + 1, v2, by omega, by go_num, HW2.out, HA2.out, hkp.trans hk2⟩
    · obtain rfl : k = m := by omega
      have hts : ss.take k = ss := List.take_of_length_le (by have := HM.out; omega)
      rw [hts] at hW hall
      have hE := packE_none HOK.out hall.out
      have hB : packB ls ss = bytesOf (packed ls ss) := by unfold packB; rw [hE]; rfl
      have hpl := packed_length ls HSM.out ss
      have hbl := bytesOf_length (packed ls ss)
      obtain ⟨A2, c2, rfl⟩ := own_shape hW.out.own
      obtain ⟨hn2, hr2, hnil2⟩ := hW.out.rowOf
      have hg0 := hW.out.blk.cell 0
      simp only [List.getElem?_toArray, List.getElem?_cons_zero] at hg0
      have C2 := Lib.hid (wbytes_any wr w1.heap.size A2 _ c2 (bytesOf (packed ls ss)) hn2 (by have := HM.out; omega) hnil2 hg0 hr2)
      have HE := Lib.hid hE
      have HB := Lib.hid hB
      have hkz := hkp.size
      clear hE hB hpl hbl hn2 hr2 hnil2 hg0 hW hall hts
      go_wp2_with fail
      refine C2.out.mono ?_
      rintro e w3 ⟨v3, rfl, hv3, hb3⟩
      go_wp2_with fail
      go_ret2
      refine ⟨v3, by rw [HE.out]; rfl, ?_, ?_⟩
      · rw [HB.out]
        exact own_mono hv3 (by omega)
      · exact bel_step ((hkp.below (fun _ h => h)).trans (hb3.mono hkz)) z1 hb1
end Go.Proofs.Ytdfpcnldfibceaa.Huff
