/-
  The walk of the statement HuffBest.
-/
import Derived.Test.YtdfpcnldfibceaaHuffBestWr
namespace Go.Proofs.Ytdfpcnldfibceaa.Huff
open Go.RowKit Go.Proofs.Ytdfpcnldfibceaa.Mem Go.Proofs.Ytdfpcnldfibceaa.Canon Go.Proofs.Ytdfpcnldfibceaa.Own Go.Proofs.Ytdfpcnldfibceaa.Open

set_option maxHeartbeats 2000000 in
set_option maxRecDepth 100000 in
theorem law_hbest (w : World) (A B : Option Addr) (n c m d : Nat) (ss ls : List Nat) (hn : ss.length = n) (hm : ls.length = m) (hN : n ≤ 400) (hM : m ≤ 256) (hce : checkE ls = 0) (h8 : ∀ x ∈ ss, x ≤ 255) (hnil : B = none → m = 0 ∧ d = 0) (ha : Row w w.heap.size A n 1 (numF .u8 ss)) (hb : Row w w.heap.size B m 1 (numF .u8 ls)) :
    Calls Try.prog 26 #[.slice A n c, .slice B m d] w fun e w' => e = .returned (.bool true) ∧ Below w.heap.size w w' := by
  have gg1 : decide ((400 : Int) < (n : Int)) = false := by simp; omega
  have gg2 : decide (400 < n) = false := by simp; omega
  have gg3 : decide ((256 : Int) < (m : Int)) = false := by simp; omega
  have gg4 : decide (256 < m) = false := by simp; omega
  have hs256 : ∀ x ∈ ss, x < 256 := fun x hx => by have := h8 x hx; omega
  have hok := check_ok hce
  have h32 := often_small (n := 256) (ss := ss) (by omega)
  obtain ⟨K6, hK6⟩ : ∃ K6 : Nat, K6 = 256 := ⟨_, rfl⟩
  have hE := Lens.often_E (n := K6) (by omega) ss
  have hok1 := Lens.ok_lens (n := K6) (by omega) ss
  have hin1 := Lens.best_in (n := K6) (by omega) (ss := ss) (by rw [hK6]; exact hs256)
  have hlen1 : (Lens.lensO (Lens.often K6 ss) 15).length = K6 := by rw [Lens.lensO_length hE, Lens.often_length]
  have hbst : (∀ x ∈ ss, ls.getD x 0 ≠ 0) → Lens.bitsOf (Lens.lensO (Lens.often K6 ss) 15) ss ≤ Lens.bitsOf ls ss := fun h => Lens.lens_bits (n := K6) (by omega) (by rw [hK6]; exact hs256) hok (by omega) h
  obtain ⟨_, hsm1, _⟩ := ok_parts hok1
  obtain ⟨_, hsm2, _⟩ := ok_parts hok
  have hcE : Lens.costE (Lens.often K6 ss) (Lens.lensO (Lens.often K6 ss) 15) = 0 := by
    unfold Lens.costE
    rw [if_pos ⟨by rw [hlen1, Lens.often_length], by rw [hlen1]; omega⟩]
  have hcO : Lens.costO (Lens.often K6 ss) (Lens.lensO (Lens.often K6 ss) 15) = Lens.bitsOf (Lens.lensO (Lens.often K6 ss) 15) ss := by
    unfold Lens.costO
    rw [if_pos hcE, Lens.cost_bits _ (by rw [hK6]; exact hs256)]
  have C0 := fun wx (h : Below w.heap.size w wx) => refcheck_any wx B m d ls hm (by omega) ((hb.below h).mono h.size)
  rw [hce] at C0
  have C1 := fun wx g (h : Blk wx g 48 (cntsV K6 ss)) => Lens.lens_any wx (some ⟨g, 0, none⟩) K6 K6 (Lens.often K6 ss) 15 (Lens.often_length _ _) (by omega) (by omega) (by omega) (by rw [hK6]; exact h32) (cntsV_row h h.lt)
  unfold Lens.LensPost at C1
  rw [hE, hlen1] at C1
  have C3 := fun wx A2 c2 (hw : Wf A2 K6 c2) hr => new_any wx A2 K6 c2 (Lens.lensO (Lens.often K6 ss) 15) hlen1 hok1 hw.1 hr
  have C4 := Lib.hid (fun wx (h : Below w.heap.size w wx) => new_any wx B m d ls hm hok hnil ((hb.below h).mono h.size))
  have C5 := fun wx g A2 c2 (h : Blk wx g 48 (cntsV K6 ss)) hr => Lens.rcost_any wx (some ⟨g, 0, none⟩) A2 K6 K6 K6 c2 (Lens.often K6 ss) (Lens.lensO (Lens.often K6 ss) 15) (Lens.often_length _ _) hlen1 (by omega) (by omega) (by rw [hK6]; exact h32) (fun x hx => by have := hsm1 x hx; omega) (cntsV_row h h.lt) hr
  rw [hcE, hcO] at C5
  have hz0 := cntsV_nil K6
  have m1 := fun w => make_u32 K6 (by omega) w
  rw [← hz0] at m1
  have hcget := fun (t : List Nat) (x : Nat) (h : x < 256) => cntsV_get (n := K6) (ss := t) (s := x) (by omega)
  have hcset := fun (t : List Nat) (x : Nat) (h : x < 256) => cntsV_snoc (n := K6) (ss := t) (s := x) (by omega)
  have hble1 := fun k => Lens.bitsOf_le hsm1 (ss.take k)
  have hble2 := fun k => Lens.bitsOf_le hsm2 (ss.take k)
  generalize Lens.lensO (Lens.often K6 ss) 15 = l1 at *
  generalize cntsV K6 = CV at *
  clear hE hlen1 hcE hcO hz0 h32 hce
  subst hK6
  simp only [show ((256 : Nat) : Int) = 256 from rfl] at m1
  have C0 := Lib.hid C0
  have C1 := Lib.hid C1
  have C3 := Lib.hid C3
  have C5 := Lib.hid C5
  have HN := Lib.hid hn
  have HM := Lib.hid hm
  have H256 := Lib.hid hs256
  have HOK := Lib.hid hok
  have HOK1 := Lib.hid hok1
  have HIN1 := Lib.hid hin1
  have HBST := Lib.hid hbst
  have HSM1 := Lib.hid hsm1
  have HSM2 := Lib.hid hsm2
  have HCG := Lib.hid hcget
  have HCS := Lib.hid hcset
  have HBL1 := Lib.hid hble1
  have HBL2 := Lib.hid hble2
  have HA := Lib.hid ha
  have HB := Lib.hid hb
  clear hn hm hs256 hok hok1 hin1 hbst hsm1 hsm2 hcget hcset hble1 hble2 ha hb h8 hnil
  go_enter Try.func26, Try.ntmps26
  go_wp2_with fail
  refine (alive09 _).mono ?_
  rintro e w1 ⟨rfl, hb1⟩
  have z1 := hb1.size
  go_wp2_with fail
  refine (C0.out _ hb1).mono ?_
  rintro e w2 ⟨rfl, rfl⟩
  go_wp2_with fail
  have hbel2 : Below w.heap.size w (w1.alloc (.cells (CV []) 48)) := bel_alloc z1 hb1
  have blk2 : Blk (w1.alloc (.cells (CV []) 48)) w1.heap.size 48 (CV []) := Blk.made _ _ _
  generalize w1.alloc (.cells (CV []) 48) = w2 at *
  have HB2 := Lib.hid hbel2
  have HK2 := Lib.hid blk2
  obtain ⟨g, hg⟩ : ∃ g, g = w1.heap.size := ⟨_, rfl⟩
  rw [← hg] at HK2 ⊢
  have hgw : w.heap.size ≤ g := by omega
  clear hbel2 blk2 hg
  go_loopw [6] (fun i wr => ∃ k : Nat, k ≤ n ∧ i = .int .i64 k ∧ Hid (Blk wr g 48 (CV (ss.take k))) ∧ Hid (Below w.heap.size w wr)) (fun i _ => n - (intOf i).toNat)
  case atStart => exact ⟨0, by omega, rfl, HK2.out, HB2.out⟩
  case round =>
    clear m1 HB2 HK2
    obtain ⟨k, hk, rfl, HK, HBR⟩ := hrel
    by_cases hlt : k < n
    · obtain ⟨b, off, x, rfl, hbb, hx, c0⟩ := num_cell HA.out HN.out hlt
      have hx2 := H256.out x (List.mem_of_getElem? hx)
      have c1 := (HBR.out.cell (p := ⟨b, off + k, none⟩) hbb).trans c0
      have e03 := HK.out.cell x
      rw [HCG.out _ x hx2] at e03
      have f03 := HK.out.frozen x
      have hcs := HCS.out (ss.take k) x hx2
      have hct := List.count_le_length (a := x) (l := ss.take k)
      rw [List.length_take] at hct
      have htk := take_snoc hx
      rw [← htk] at hcs
      have hbk := HK.out.set x (.int .u32 (((ss.take k).count x + 1 : Nat) : Int))
      rw [hcs] at hbk
      have HBK := Lib.hid hbk
      generalize (ss.take k).count x = y at *
      have s1 : IntKind.u32.wrap ((y : Int) + 1) = (y : Int) + 1 := by rw [IntKind.wrap_u32]; omega
      have y0 : (0 : Int) ≤ (k : Int) := by omega
      have y1 : (k : Int) < (n : Int) := by omega
      have y2 : (0 : Int) ≤ (x : Int) := by omega
      have y3 : (x : Int) < 256 := by omega
      clear hx c0 hcs hct htk hbk
      go_wp2_with fail
      go_roundw
      case measure => go_light; simp [intOf]; omega
      case rel =>
        go_light
        refine ⟨k + 1, by omega, by go_num, ?_, ?_⟩
        · exact HBK.out
        · exact bel_set (p := ⟨g, x, none⟩) hgw HBR.out
    · obtain rfl : k = n := by omega
      have hts : ss.take k = ss := List.take_of_length_le (by have := HN.out; omega)
      rw [hts] at HK
      have hgl := HK.out.lt
      have hwr := HBR.out.size
      clear hts
      go_wp2_with fail
      refine (C1.out _ g HK.out).mono ?_
      rintro e w3 ⟨A2, c2, rfl, hr2, hwf2, hb3⟩
      have z3 := hb3.size
      have HR2 := Lib.hid hr2
      have HW2 := Lib.hid hwf2
      have HB3 : Hid (Below w.heap.size w w3) := bel_step hb3 hwr HBR.out
      have HK3 : Hid (Blk w3 g 48 (CV ss)) := HK.out.below hb3 hgl
      clear hr2 hwf2 hb3
      go_wp2_with fail
      have bW1 : Blk ((w3.alloc (.cells #[.slice none 0 0, .int .i64 0] 86)).alloc (.cells #[.slice none 0 0, .int .i64 0] 86)) w3.heap.size 86 #[.slice none 0 0, .int .i64 0] := (Blk.made _ _ _).alloc _
      have bW2 : Blk ((w3.alloc (.cells #[.slice none 0 0, .int .i64 0] 86)).alloc (.cells #[.slice none 0 0, .int .i64 0] 86)) (w3.heap.size + 1) 86 #[.slice none 0 0, .int .i64 0] := Blk.made_at _ _ _ (by simp)
      have hb34 : Below w3.heap.size w3 ((w3.alloc (.cells #[.slice none 0 0, .int .i64 0] 86)).alloc (.cells #[.slice none 0 0, .int .i64 0] 86)) := bel_alloc0 (bel_alloc0 (Below.refl _ _))
      obtain ⟨g1, hg1⟩ : ∃ g1, g1 = w3.heap.size := ⟨_, rfl⟩
      obtain ⟨g2, hg2⟩ : ∃ g2, g2 = w3.heap.size + 1 := ⟨_, rfl⟩
      generalize ((w3.alloc (.cells #[.slice none 0 0, .int .i64 0] 86)).alloc (.cells #[.slice none 0 0, .int .i64 0] 86)) = w4 at *
      rw [← hg2] at bW2
      rw [← hg1] at bW1
      rw [← hg2, ← hg1]
      have q1 : w3.heap.size ≤ g1 := by omega
      have q2 : w3.heap.size ≤ g2 := by omega
      have q3 : g1 ≠ g2 := by omega
      have l1w := bW1.lt
      have l2w := bW2.lt
      have z34 := hb34.size
      have HB4 : Hid (Below w.heap.size w w4) := bel_step hb34 (by omega) HB3.out
      have HK1 := Lib.hid bW1
      have HK2 := Lib.hid bW2
      have HB34 := Lib.hid hb34
      clear hg1 hg2 bW1 bW2 hb34
      refine (C3.out w4 A2 c2 HW2.out ((HR2.out.below HB34.out).mono z34)).mono ?_
      rintro e w5 ⟨gc, rfl, hC, hb5⟩
      have z5 := hb5.size
      have HB5 : Hid (Below w.heap.size w w5) := bel_step hb5 (by omega) HB4.out
      have HC := Lib.hid hC
      have HB45 := Lib.hid hb5
      clear hC hb5 C3
      go_wp2_with fail
      refine (C4.out w5 HB5.out).mono ?_
      rintro e w6 ⟨gd, rfl, hD, hb6⟩
      have z6 := hb6.size
      have HB6 : Hid (Below w.heap.size w w6) := bel_step hb6 (by omega) HB5.out
      have HD := Lib.hid hD
      have HC6 : Hid (Coder w6 w4.heap.size w5.heap.size gc l1) := HC.out.below hb6 (Nat.le_refl _)
      have HK16 : Hid (Blk w6 g1 86 #[.slice none 0 0, .int .i64 0]) := (HK1.out.step HB45.out).below hb6 (by omega)
      have HK26 : Hid (Blk w6 g2 86 #[.slice none 0 0, .int .i64 0]) := (HK2.out.step HB45.out).below hb6 (by omega)
      have HB36 : Hid (Below w3.heap.size w3 w6) := HB34.out.trans ((HB45.out.mono z34).trans (hb6.mono (by omega)))
      have HTW : Hid (Two (fun x => x < w6.heap.size ∧ x ≠ g1 ∧ x ≠ g2) w6 w6.heap.size g1 g2 86 [] [] (.slice none 0 0) (.slice none 0 0)) :=
        Two.make HK16.out HK26.out (Nat.le_refl _) q3 (fun h => h.2.1 rfl) (fun h => h.2.2 rfl) (fun _ h => h.1)
      have HKC : Hid (∀ z, w4.heap.size ≤ z → z < w5.heap.size → z < w6.heap.size ∧ z ≠ g1 ∧ z ≠ g2) := fun z h1 h2 => ⟨by omega, by omega, by omega⟩
      have HKD : Hid (∀ z, w5.heap.size ≤ z → z < w6.heap.size → z < w6.heap.size ∧ z ≠ g1 ∧ z ≠ g2) := fun z h1 h2 => ⟨by omega, by omega, by omega⟩
      have HKW : Hid (∀ z, z < w3.heap.size → z < w6.heap.size ∧ z ≠ g1 ∧ z ≠ g2) := fun z h1 => ⟨by omega, by omega, by omega⟩
      have hw3 : w.heap.size ≤ w3.heap.size := by omega
      clear hD hb6 C4 HK1 HK2 HK16 HK26 HC HB45 HB5 HB4
      go_wp2_with fail
      go_loopw [15] (fun i wr => ∃ (j : Nat) (b1 b2 : List Bool) (v1 v2 : Value), j ≤ k ∧ i = .int .i64 j ∧ Hid (Two (fun x => x < w6.heap.size ∧ x ≠ g1 ∧ x ≠ g2) wr w6.heap.size g1 g2 86 b1 b2 v1 v2) ∧ Hid (b1.length = Lens.bitsOf l1 (ss.take j)) ∧ Hid (b2.length = Lens.bitsOf ls (ss.take j)) ∧ Hid (∀ x ∈ ss.take j, ls.getD x 0 ≠ 0) ∧ Hid (Kept (fun x => x < w6.heap.size ∧ x ≠ g1 ∧ x ≠ g2) w6 wr)) (fun i _ => k - (intOf i).toNat)
      case atStart => exact ⟨0, [], [], _, _, by omega, rfl, HTW.out, rfl, rfl, (fun x h => by simp at h), Kept.refl _ _⟩
      case round => as_aux_lemma =>
        clear HTW
        obtain ⟨j, b1, b2, v1, v2, hj, rfl, hT, hL1, hL2, hall, hkp⟩ := hrel
        have HBR2 : Hid (Below w3.heap.size w6 wr) := hkp.out.below fun z h => HKW.out z h
        have HBW : Hid (Below w.heap.size w wr) := bel_step (HB36.out.trans HBR2.out) hw3 HB3.out
        by_cases hlt : j < k
        · obtain ⟨b, off, x, rfl, hbb, hx, c0⟩ := num_cell HA.out HN.out hlt
          have hmem := List.mem_of_getElem? hx
          have hx2 := H256.out x hmem
          have c1 := (HBW.out.cell (p := ⟨b, off + j, none⟩) hbb).trans c0
          have htk := take_snoc hx
          have hx1 := HIN1.out x hmem
          have hbd : -9223372036854775808 ≤ (x : Int) ∧ (x : Int) ≤ 9223372036854775807 := by omega
          have hle1 := HBL1.out j
          have hle2 := HBL2.out j
          rw [List.length_take] at hle1 hle2
          have e1 := hL1.out
          have e2 := hL2.out
          have D1 := Lib.hid (cput_any _ wr w4.heap.size w5.heap.size gc l1 g1 w6.heap.size 86 [] v1 b1 (x : Int) hbd HOK1.out (HC6.out.kept hkp.out HKC.out) (fun z a b => .inl (HKC.out z a b)) (by rw [lenAt_nat]; exact hx1) (by omega) hT.out.a)
          have HTK := Lib.hid htk
          have HX1 := Lib.hid hx1
          have HMEM := Lib.hid hmem
          have C0B := Lib.hid c0
          have y0 : (0 : Int) ≤ (j : Int) := by omega
          have y1 : (j : Int) < (k : Int) := by omega
          have y2 : (0 : Int) ≤ (x : Int) := by omega
          have y3 : (x : Int) < 256 := by omega
          have E2 : Hid (b2.length ≤ 600000) := by show _ ≤ _; omega
          clear hx hmem c0 htk hx1 hle1 hle2 e1 e2
          go_wp2_with fail
          refine D1.out.mono ?_
          rintro e w7 ⟨rfl, u1, hW1, hk7⟩
          have HT7 := Lib.hid (hT.out.step hW1 hk7)
          have HK7 : Hid (Kept (fun x => x < w6.heap.size ∧ x ≠ g1 ∧ x ≠ g2) w6 w7) := hkp.out.trans (Two.kept hk7)
          have HBR7 : Hid (Below w.heap.size w w7) := bel_step (HB36.out.trans (HK7.out.below fun z h => HKW.out z h)) hw3 HB3.out
          have c7 := (HBR7.out.cell (p := ⟨b, off + j, none⟩) hbb).trans C0B.out
          clear hW1 hk7 D1 c1
          by_cases h0 : ls.getD x 0 = 0
          · have D2 := Lib.hid (cput_none w7 w5.heap.size w6.heap.size gd ls g2 (x : Int) hbd HSM2.out (HD.out.kept HK7.out HKD.out) (by rw [lenAt_nat]; exact h0))
            by_cases hxm : x < m
            · obtain ⟨bb, off2, y, rfl, hbb2, hy, d0⟩ := num_cell HB.out HM.out hxm
              have hy0 : y = 0 := by rw [← h0, List.getD_eq_getElem?_getD, hy]; rfl
              subst hy0
              have d7 := (HBR7.out.cell (p := ⟨bb, off2 + x, none⟩) hbb2).trans d0
              have r1 : decide ((m : Int) ≤ (x : Int)) = false := by simp; omega
              have r2 : decide (m ≤ x) = false := by simp; omega
              have r3 : (x : Int) < (m : Int) := by omega
              clear h0 hy d0 HT7 hT
              go_wp2_with fail
              refine D2.out.mono ?_
              rintro e w8 ⟨rfl, rfl⟩
              go_wp2_with fail
              go_ret
              exact ⟨rfl, HBR7.out⟩
            · have r1 : decide ((m : Int) ≤ (x : Int)) = true := by simp; omega
              have r2 : decide (m ≤ x) = true := by simp; omega
              clear h0 HT7 hT
              go_wp2_with fail
              refine D2.out.mono ?_
              rintro e w8 ⟨rfl, rfl⟩
              go_wp2_with fail
              go_ret
              exact ⟨rfl, HBR7.out⟩
          · have D2 := Lib.hid (cput_any _ w7 w5.heap.size w6.heap.size gd ls g2 w6.heap.size 86 [] v2 b2 (x : Int) hbd HOK.out (HD.out.kept HK7.out HKD.out) (fun z a b => .inl (HKD.out z a b)) (by rw [lenAt_nat]; exact h0) E2.out HT7.out.b)
            have HX2 := Lib.hid h0
            clear h0 hT
            go_wp2_with fail
            refine D2.out.mono ?_
            rintro e w8 ⟨rfl, u2, hW2, hk8⟩
            have HT8 := Lib.hid (HT7.out.symm.step hW2 hk8).symm
            have HK8 : Hid (Kept (fun x => x < w6.heap.size ∧ x ≠ g1 ∧ x ≠ g2) w6 w8) := HK7.out.trans (Two.kept hk8)
            clear hW2 hk8 D2 HT7
            go_wp2_with fail
            go_roundw
            case measure => go_light; simp [intOf]; omega
            case rel =>
              go_light
              refine ⟨j + 1, _, _, u1, u2, by omega, by go_num, HT8.out, ?_, ?_, ?_, HK8.out⟩
              · show _ = _
                rw [List.length_append, word_length, HTK.out, Lens.bitsOf_snoc, hL1.out, Int.toNat_natCast]
              · show _ = _
                rw [List.length_append, word_length, HTK.out, Lens.bitsOf_snoc, hL2.out, Int.toNat_natCast]
              · show ∀ z ∈ ss.take (j + 1), ls.getD z 0 ≠ 0
                intro z hz
                rw [HTK.out, List.mem_append, List.mem_singleton] at hz
                rcases hz with hz | rfl
                · exact hall.out z hz
                · exact HX2.out
        · obtain rfl : j = k := by omega
          have hts : ss.take j = ss := List.take_of_length_le (by have := HN.out; omega)
          have hle1 := HBL1.out j
          rw [List.length_take] at hle1
          rw [hts] at hL1 hL2 hall hle1
          have hbt := HBST.out hall.out
          have x1 := hT.out.a.blk.cell 1
          have x2 := hT.out.b.blk.cell 1
          simp only [List.getElem?_toArray, List.getElem?_cons_succ, List.getElem?_cons_zero] at x1 x2
          rw [hL1.out] at x1
          rw [hL2.out] at x2
          have HX1 := Lib.hid x1
          have HX2 := Lib.hid x2
          have zR := HBR2.out.size
          have HB3R : Hid (Below w3.heap.size w3 wr) := HB36.out.trans HBR2.out
          have zR3 := HB3R.out.size
          have C6 := Lib.hid (C5.out wr g A2 c2 (HK3.out.step HB3R.out) ((HR2.out.below HB3R.out).mono zR3))
          generalize Lens.bitsOf l1 ss = P at *
          generalize Lens.bitsOf ls ss = Q at *
          have s1 : IntKind.u64.wrap (P : Int) = (P : Int) := by rw [IntKind.wrap_u64]; omega
          have s2 : decide ((P : Int) ≤ (Q : Int)) = true := by simp; omega
          have s3 : decide (P ≤ Q) = true := by simp; omega
          clear x1 x2 hL1 hL2 hall hts hle1 HBST HBL1 HBL2 C5 hT
          go_wp2_with fail
          refine C6.out.mono ?_
          rintro e w7 ⟨rfl, q, rfl⟩
          have D1 := Lib.hid (wlen_b (wr.drewN q) g1 P HX1.out)
          have D2 := Lib.hid (wlen_b (wr.drewN q) g2 Q HX2.out)
          go_wp2_with fail
          refine D1.out.mono ?_
          rintro e w8 ⟨rfl, rfl⟩
          go_wp2_with fail
          refine D1.out.mono ?_
          rintro e w9 ⟨rfl, rfl⟩
          go_wp2_with fail
          refine D2.out.mono ?_
          rintro e w10 ⟨rfl, rfl⟩
          go_wp2_with fail
          go_ret
          exact ⟨rfl, below_drewN HBW.out q⟩
end Go.Proofs.Ytdfpcnldfibceaa.Huff
