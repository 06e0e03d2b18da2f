/-
  The walk of the reference's Pack.
-/
import Derived.Test.YtdfpcnldfibceaaRefCPut
import Derived.Test.YtdfpcnldfibceaaRefBytes
import Derived.Test.YtdfpcnldfibceaaHuffPack
namespace Go.Proofs.Ytdfpcnldfibceaa.Huff
open Go.RowKit Go.Proofs.Ytdfpcnldfibceaa.Mem Go.Proofs.Ytdfpcnldfibceaa.Canon Go.Proofs.Ytdfpcnldfibceaa.Own Go.Proofs.Ytdfpcnldfibceaa.Open

theorem RW.rowOf {K : Nat → Prop} {w : World} {base g c : Nat} {bs : List Bool} {A : Option Addr} {n : Nat} (h : RW K w base g bs (.slice A n c)) : bs.length = n ∧ Row w w.heap.size A n 1 (numF .u8 (b01 bs)) := by
  have ho := h.own
  have hn : bs.length = n := by
    rcases ho.2 with ⟨hv, hx⟩ | ⟨g, cap, cur, hv, _⟩
    · injection hv with _ e _
      exact hx.trans e.symm
    · injection hv with _ e _
      exact e.symm
  rw [hn] at ho
  exact ⟨hn, Row.of_own ho rfl (fun i j hi hj => by have e0 : j = 0 := (by omega); subst e0; exact numL_get (by rw [b01_length]; omega))⟩

set_option maxRecDepth 100000 in
theorem rpack_bad (w : World) (A : Option Addr) (n c : Nat) (ls : List Nat) (ss : List Int) (u : Value) (hn : ls.length = n) (hN : n ≤ 9223372036854775807) (hok : okB ls = false) (ha : Row w w.heap.size A n 1 (numF .u8 ls)) :
    Calls Try.prog 49 #[.slice A n c, u] w (PackPost ls ss w) := by
  have hE : packE ls ss = 7 := by unfold packE; rw [hok]; rfl
  have hB : packB ls ss = [] := by unfold packB; rw [hE]; rfl
  unfold PackPost
  rw [hE, hB]
  have C := Lib.hid (rnew_bad w A n c ls hn hN hok ha)
  clear hn hok hE hB
  go_enter Try.func49, Try.ntmps49
  go_wp2_with fail
  refine C.out.mono ?_
  rintro e w1 ⟨rfl, hb1⟩
  go_wp2_with fail
  go_ret2
  exact ⟨_, rfl, World.ownsRow_nil _ _ _ _, bel_alloc hb1.size hb1⟩

set_option maxHeartbeats 1000000 in
set_option maxRecDepth 100000 in
theorem rpack_any (w : World) (A B : Option Addr) (n c m d : Nat) (ls : List Nat) (ss : List Int) (hn : ls.length = n) (hok : okB ls = true) (hnil : A = none → n = 0 ∧ c = 0) (ha : Row w w.heap.size A n 1 (numF .u8 ls))
    (hm : ss.length = m) (hM : m ≤ 3000) (hss : ∀ s ∈ ss, -9223372036854775808 ≤ s ∧ s ≤ 9223372036854775807) (hb : Row w w.heap.size B m 1 (intF .i64 ss)) :
    Calls Try.prog 49 #[.slice A n c, .slice B m d] w (PackPost ls ss w) := by
  obtain ⟨_, hsm, _⟩ := ok_parts hok
  have C := Lib.hid (rnew_any w A n c ls hn hok hnil ha)
  have HM := Lib.hid hm
  have HOK := Lib.hid hok
  have HSM := Lib.hid hsm
  have HSS := Lib.hid hss
  clear hn hok hsm hss hnil hm
  go_enter Try.func49, Try.ntmps49
  go_wp2_with fail
  refine C.out.mono ?_
  rintro e w1 ⟨vl, vc, rfl, hC, hb1⟩
  have z1 := hb1.size
  have hrow := (hb.below hb1).mono z1
  obtain ⟨A1, c1, rfl, _⟩ := hC.lens
  obtain ⟨A2, c2, rfl, _⟩ := hC.codes
  have HC := Lib.hid hC
  clear hC C hb
  obtain ⟨nl, hnl⟩ : ∃ nl, nl = ls.length := ⟨_, rfl⟩
  rw [← hnl] at HC ⊢
  clear hnl
  go_wp2_with fail
  have hbel2 : Below w1.heap.size w1 ((w1.alloc (.cells #[.slice A1 nl c1, .slice A2 nl c2] 62)).alloc (.cells #[.slice none 0 0] 141)) := bel_alloc0 (bel_alloc0 (Below.refl _ _))
  have hW0 : RW (fun x => x < w1.heap.size + 1) ((w1.alloc (.cells #[.slice A1 nl c1, .slice A2 nl c2] 62)).alloc (.cells #[.slice none 0 0] 141)) (w1.heap.size + 1) (w1.heap.size + 1) [] (.slice none 0 0) := by
    have h := RW.start (K := fun x => x < w1.heap.size + 1) (w := w1.alloc (.cells #[.slice A1 nl c1, .slice A2 nl c2] 62)) (g := w1.heap.size + 1) (Blk.made_at (w1.alloc (.cells #[.slice A1 nl c1, .slice A2 nl c2] 62)) 141 #[.slice none 0 0] (by simp)) (by simp) (fun k h => by simpa using h) (by simp)
    simpa using h
  have blkC : Blk ((w1.alloc (.cells #[.slice A1 nl c1, .slice A2 nl c2] 62)).alloc (.cells #[.slice none 0 0] 141)) w1.heap.size 62 #[.slice A1 nl c1, .slice A2 nl c2] := (Blk.made _ _ _).alloc _
  generalize (w1.alloc (.cells #[.slice A1 nl c1, .slice A2 nl c2] 62)).alloc (.cells #[.slice none 0 0] 141) = w2 at *
  have HW0 := Lib.hid hW0
  have HB2 := Lib.hid hbel2
  have HBC := Lib.hid blkC
  have hz2 := hbel2.size
  have hz3 := blkC.lt
  clear hW0 hbel2 blkC
  go_loopw [9] (fun i wr => ∃ (k : Nat) (v : Value), k ≤ m ∧ i = .int .i64 k ∧ Hid (RW (fun x => x < w1.heap.size + 1) wr (w1.heap.size + 1) (w1.heap.size + 1) (packed ls (ss.take k)) v) ∧ Hid (∀ s ∈ ss.take k, lenAt ls s ≠ 0) ∧ Kept (fun x => x < w1.heap.size + 1) w2 wr) (fun i _ => m - (intOf i).toNat)
  case atStart => exact ⟨0, .slice none 0 0, by omega, rfl, HW0.out, (fun s hs => by simp at hs), Kept.refl _ _⟩
  case round =>
    obtain ⟨k, v, hk, rfl, hW, hall, hkp⟩ := hrel
    by_cases hlt : k < m
    · have hrow2 : Row wr w1.heap.size B m 1 (intF .i64 ss) := hrow.keep fun p hp => (World.cell?_of_block (hkp.block p.block (by omega))).trans (HB2.out.cell hp)
      obtain ⟨b, off, s, rfl, hbb, hs, d0⟩ := int_cell hrow2 HM.out hlt
      have hmem := List.mem_of_getElem? hs
      have hbd := HSS.out s hmem
      have x0 : (0 : Int) ≤ (k : Int) := by omega
      have x1 : (k : Int) < (m : Int) := by omega
      have hCk : RCo wr w.heap.size w1.heap.size (.slice A1 nl c1) (.slice A2 nl c2) ls := (HC.out.kept (Kept.of_below HB2.out (fun k h => h)) (fun _ _ h => h)).kept hkp (fun _ _ h => by omega)
      have blkC := (hkp.block w1.heap.size (by omega)).trans HBC.out
      have p0 := Blk.cell blkC 0
      have p1 := Blk.cell blkC 1
      simp only [List.getElem?_toArray, List.getElem?_cons_zero, List.getElem?_cons_succ] at p0 p1
      have htk := take_snoc hs
      have HTK := Lib.hid htk
      have HMEM := Lib.hid hmem
      have hkz := hkp.size
      clear hs hmem htk hrow2 blkC
      by_cases h0 : lenAt ls s = 0
      · have C2 := Lib.hid (rcput_none wr.drew w.heap.size w1.heap.size _ _ ls (w1.heap.size + 1) s hbd (hCk.kept ((Kept.refl (fun _ => True) wr).drew) (fun _ _ _ => trivial)) (by show w1.heap.size ≤ wr.heap.size; omega) h0)
        have HE := Lib.hid (packE_some HOK.out HMEM.out h0)
        clear h0 hCk
        go_upto_region 8 with fail
        go_region_held3 (fun wx => wx.cell? ⟨w1.heap.size, 0, none⟩ = some (.slice A1 nl c1) ∧ wx.cell? ⟨w1.heap.size, 1, none⟩ = some (.slice A2 nl c2) ∧ wx.cell? ⟨b, off + k, none⟩ = some (.int .i64 s)) (first | exact ⟨p0, p1, d0⟩ | exact ⟨k0, k1, k2⟩) (first | (go_at_call 104; (with_reducible refine C2.out.mono ?_); rintro e w' ⟨rfl, hk2⟩; have k0 : w'.cell? ⟨w1.heap.size, 0, none⟩ = some (.slice A1 nl c1) := (hk2.cell (p := ⟨w1.heap.size, 0, none⟩) (by show w1.heap.size < wr.heap.size; omega)).trans p0; have k1 : w'.cell? ⟨w1.heap.size, 1, none⟩ = some (.slice A2 nl c2) := (hk2.cell (p := ⟨w1.heap.size, 1, none⟩) (by show w1.heap.size < wr.heap.size; omega)).trans p1; have k2 : w'.cell? ⟨b, off + k, none⟩ = some (.int .i64 s) := (hk2.cell (p := ⟨b, off + k, none⟩) (by show b < wr.heap.size; omega)).trans d0))
        have HK2 := Lib.hid hk2
        clear hk2 k0 k1 k2 C2
        go_wp2_with fail
        go_ret2
        refine ⟨.slice none 0 0, by rw [HE.out]; rfl, ?_, ?_⟩
        · have : packB ls ss = [] := by unfold packB; rw [HE.out]; rfl
          rw [this]
          exact World.ownsRow_nil _ _ _ _
        · exact bel_step ((HB2.out.trans (hkp.below (fun _ h => by omega))).trans ((Below.refl _ wr).drew.trans (HK2.out.mono (by show w1.heap.size ≤ wr.heap.size; omega)))) z1 hb1
      · have hpl := packed_length ls HSM.out (ss.take k)
        rw [List.length_take] at hpl
        have hW' := hW.out
        have C2 := Lib.hid (rcput_any (fun x => x < w1.heap.size + 1) wr.drew w.heap.size w1.heap.size _ _ ls (w1.heap.size + 1) (w1.heap.size + 1) v (packed ls (ss.take k)) s HOK.out (hCk.kept ((Kept.refl (fun _ => True) wr).drew) (fun _ _ _ => trivial)) (fun _ _ h => by omega) h0 (by omega) ⟨hW'.blk.drew, hW'.own, hW'.ne, hW'.base, hW'.kg, hW'.kv, hW'.kK⟩)
        rw [← packed_snoc, ← HTK.out] at C2
        have HA2 : Hid (∀ s ∈ ss.take (k + 1), lenAt ls s ≠ 0) := by
          show ∀ s ∈ ss.take (k + 1), lenAt ls s ≠ 0
          intro z hz
          rw [HTK.out, List.mem_append, List.mem_singleton] at hz
          rcases hz with hz | rfl
          · exact hall.out z hz
          · exact h0
        clear h0 hCk hW hW' hpl
        go_upto_region 8 with fail
        go_region_held3 (fun wx => wx.cell? ⟨w1.heap.size, 0, none⟩ = some (.slice A1 nl c1) ∧ wx.cell? ⟨w1.heap.size, 1, none⟩ = some (.slice A2 nl c2) ∧ wx.cell? ⟨b, off + k, none⟩ = some (.int .i64 s)) (first | exact ⟨p0, p1, d0⟩ | exact ⟨k0, k1, k2⟩) (first | (go_at_call 104; (with_reducible refine C2.out.mono ?_); rintro e w' ⟨rfl, v2, hW2, hk2⟩; have k0 : w'.cell? ⟨w1.heap.size, 0, none⟩ = some (.slice A1 nl c1) := (World.cell?_of_block (a := ⟨w1.heap.size, 0, none⟩) (hk2.block w1.heap.size (by omega))).trans p0; have k1 : w'.cell? ⟨w1.heap.size, 1, none⟩ = some (.slice A2 nl c2) := (World.cell?_of_block (a := ⟨w1.heap.size, 1, none⟩) (hk2.block w1.heap.size (by omega))).trans p1; have k2 : w'.cell? ⟨b, off + k, none⟩ = some (.int .i64 s) := (World.cell?_of_block (a := ⟨b, off + k, none⟩) (hk2.block b (by omega))).trans d0))
        have HW2 := Lib.hid hW2
        have HK2 := Lib.hid hk2
        clear hW2 hk2 k0 k1 k2 C2
        go_wp2_with fail
        go_roundw
        case measure => go_light; simp [intOf]; omega
        case rel =>
          go_light
          exact ⟨k + 1, v2, by omega, by go_num, HW2.out, HA2.out, hkp.drew.trans HK2.out⟩
    · obtain rfl : k = m := by omega
      have hts : ss.take k = ss := List.take_of_length_le (by have := HM.out; omega)
      rw [hts] at hW hall
      have HE := Lib.hid (packE_none HOK.out hall.out)
      have HB : Hid (packB ls ss = bytesOf (packed ls ss)) := by show _ = _; unfold packB; rw [HE.out]; rfl
      have hpl := packed_length ls HSM.out ss
      obtain ⟨A3, c3, rfl⟩ := own_shape hW.out.own
      obtain ⟨hn2, hr2⟩ := hW.out.rowOf
      have hg0 := hW.out.blk.cell 0
      simp only [List.getElem?_toArray, List.getElem?_cons_zero] at hg0
      have C2 := Lib.hid (rbytes_any wr (w1.heap.size + 1) A3 _ c3 (packed ls ss) hn2 (by have := HM.out; omega) hg0 hW.out.blk.lt hr2)
      have hkz := hkp.size
      clear hpl hn2 hr2 hg0 hW hall hts
      go_wp2_with fail
      refine C2.out.mono ?_
      rintro e w3 ⟨v3, rfl, hv3, hb3⟩
      go_wp2_with fail
      go_ret2
      refine ⟨v3, by rw [HE.out]; rfl, ?_, ?_⟩
      · rw [HB.out]
        exact own_mono hv3 (by omega)
      · exact bel_step ((HB2.out.trans (hkp.below (fun _ h => by omega))).trans (hb3.mono (by omega))) z1 hb1
end Go.Proofs.Ytdfpcnldfibceaa.Huff
