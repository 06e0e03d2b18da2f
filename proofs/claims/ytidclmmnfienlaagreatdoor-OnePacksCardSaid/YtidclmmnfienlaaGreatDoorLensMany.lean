/-
  The walk of lens.Lens where two symbols or more are used.
-/
import Derived.Test.YtidclmmnfienlaaGreatDoorLensRL
import Derived.Test.YtidclmmnfienlaaGreatDoorLensPB
namespace Go.Proofs.YtidclmmnfienlaaGreatDoor.Lens
open Go.RowKit Go.Proofs.YtidclmmnfienlaaGreatDoor.Mem Go.Proofs.YtidclmmnfienlaaGreatDoor.Own Go.Proofs.YtidclmmnfienlaaGreatDoor.Srt Go.Proofs.YtidclmmnfienlaaGreatDoor.Canon

theorem info_rows : (Tryz.prog.info? 221).map (fun i => (i.zero, i.size, i.bytes)) = some (some (.slice none 0 0), 1, 24) := by kernel_rfl
def lenOf : Value → Nat
  | .slice _ n _ => n
  | _ => 0
/-- What is known of the used symbols. -/
structure Syms (ks : List Nat) (n : Nat) (S : List Nat) : Prop where
  sorted : S.Pairwise (Lt (kOf ks))
  nodup : S.Nodup
  below : ∀ s ∈ S, s < n
  small : ∀ s ∈ S, kOf ks s ≤ 4294967295
  two : 2 ≤ S.length
  few : S.length ≤ 300
  le : S.length ≤ n
theorem row_small {ks S : List Nat} {n : Nat} (h : Syms ks n S) {r : Nat} (hr : r ≤ 14) : (∀ y ∈ rowN (lv (kOf ks) S) r, y.2 ≠ [] ∧ y.1 ≤ 70368744161280) ∧ S.length ≤ (rowN (lv (kOf ks) S) r).length ∧ (rowN (lv (kOf ks) S) r).length ≤ 2 * S.length := by
  have h2 := h.two
  refine ⟨fun y hy => ⟨row_syms r y hy, ?_⟩, ?_, ?_⟩
  · have h1 := row_weight h.small r y hy
    have h3 : 2 ^ r ≤ 2 ^ 14 := Nat.pow_le_pow_right (by omega) hr
    have h4 : 2 ^ r * 4294967295 ≤ 2 ^ 14 * 4294967295 := Nat.mul_le_mul_right _ h3
    omega
  · rcases r with _ | r
    · rw [row_length_zero]; exact Nat.le_refl _
    · rw [row_length_succ]; omega
  · have h3 := row_length (k := kOf ks) (S := S) (by omega) r
    generalize (S.length - 1) / 2 ^ r = d at h3
    omega
theorem pairs_le {ks S : List Nat} {n : Nat} (h : Syms ks n S) {R t : Nat} (hR : R ≤ 14) (ht : t ≤ (rowN (lv (kOf ks) S) R).length) : t - nl (rowN (lv (kOf ks) S) R) t ≤ S.length := by
  rcases R with _ | R
  · rw [row_length_zero] at ht
    rw [nl_row0 t ht]; omega
  · obtain ⟨n', q, h1, h2, h3, h4, _⟩ := row_take R t ht
    have h5 := (row_small h (r := R) (by omega)).2.2
    rw [h4]; omega
theorem restR_le {k : Nat → Nat} {S : List Nat} {L R t : Nat} {f : Nat → Nat} (h : CntAt k S L R t f) (hL : 1 ≤ L) (s : Nat) : f s ≤ L := by
  have h1 := h s
  have h2 := lenR_le (k := k) (S := S) (L - 1) (2 * S.length - 2) s
  omega

set_option maxHeartbeats 4000000 in
set_option maxRecDepth 100000 in
theorem lens_many (w : World) (A : Option Addr) (n c L : Nat) (ks : List Nat) (hn : ks.length = n) (hN : n ≤ 300) (hl1 : 1 ≤ L) (hl2 : L ≤ 15) (h : 2 ≤ (order (kOf ks) n).length) (hp : (order (kOf ks) n).length ≤ 2 ^ L) (h32 : ∀ x ∈ ks, x < 4294967296) (ha : Row w w.heap.size A n 1 (numF .u32 ks)) :
    Calls Tryz.prog 135 #[.slice A n c, .int .i64 L] w (LensPostN ks L w) := by
  have hE : Hid (lensE ks L = 0) := by
    show _ = _
    unfold lensE
    rw [if_neg (by omega), if_neg]
    rw [hn]
    show ¬ 2 ^ L < (order (kOf ks) n).length
    omega
  have C := used_any w A n c ks hn (by omega) ha
  unfold UsedPost at C
  have HN := Lib.hid hn
  rw [hn] at C
  have g1 : decide ((300 : Int) < (n : Int)) = false := by simp; omega
  have g2 : decide (300 < n) = false := by simp; omega
  have g3 : decide ((L : Int) < 1) = false := by simp; omega
  have g4 : decide ((15 : Int) < (L : Int)) = false := by simp; omega
  have g5 : decide (L < 1) = false := by simp; omega
  have g6 : decide (15 < L) = false := by simp; omega
  have t1 : decide (wrap64 ((2 : Int) ^ L) < ((order (kOf ks) n).length : Int)) = false := by rw [pow_wrap hl2]; exact decide_eq_false (by rw [Int.ofNat_lt]; omega)
  have hV : Hid (lensV ks L = (List.range n).map (lenR (kOf ks) (order (kOf ks) n) (L - 1) (2 * (order (kOf ks) n).length - 2))) := by
    show _ = _
    unfold lensV
    rw [hn]
    show (if (order (kOf ks) n).length < 2 then _ else _) = _
    rw [if_neg (by omega)]
  have HS : Hid (Syms ks n (order (kOf ks) n)) := by
    refine ⟨order_sorted _ _, order_nodup _ _, fun s hs => (order_mem.1 hs).1, fun s hs => ?_, h, by have := order_length (kOf ks) n; omega, order_length (kOf ks) n⟩
    have hsn := (order_mem.1 hs).1
    have : kOf ks s = ks[s]'(by omega) := by simp [kOf, List.getD_eq_getElem?_getD, List.getElem?_eq_getElem (show s < ks.length by omega)]
    rw [this]
    have := h32 _ (List.getElem_mem (show s < ks.length by omega))
    omega
  have htake : Hid (2 * (order (kOf ks) n).length - 2 ≤ (rowN (lv (kOf ks) (order (kOf ks) n)) (L - 1)).length) := row_long hl1 (by omega) hp
  have hmk := make_u8 n (by omega)
  have HA := Lib.hid ha
  have H32 := Lib.hid h32
  obtain ⟨j0, hj0, hy0, hy1, hy2⟩ := info_parts info_rows
  clear ha hn hp h32
  generalize order (kOf ks) n = S at *
  obtain ⟨q, hq⟩ : ∃ q, S.length = q := ⟨_, rfl⟩
  have HQ := Lib.hid hq
  have hq1 : q ≤ 300 := by have := HS.out.few; omega
  have hqn : q ≤ n := by have := HS.out.le; omega
  rw [hq] at C t1 h
  have CC := Lib.hid C
  have q1 : ((q : Int) == 1) = false := by simp; omega
  have q2 : decide ((q : Int) < 2) = false := by simp; omega
  have q3 : decide (q < 2) = false := by simp; omega
  clear hq C
  go_enter Tryz.func135, Tryz.ntmps135
  go_wp2_with fail
  refine CC.out.mono ?_
  rintro e w1 ⟨A1, c1, rfl, hrow, hb1⟩
  have hz1 := hb1.size
  go_wp2_with fail
  have bl2 : Blk (w1.alloc (.cells (madeCells #[.int .u8 0] n) 5)) w1.heap.size 5 _ := Blk.made _ _ _
  have hb2 : Below w.heap.size w (w1.alloc (.cells (madeCells #[.int .u8 0] n) 5)) := bel_alloc hz1 hb1
  have hr2 := hrow.alloc (Nat.le_refl _) (.cells (madeCells #[.int .u8 0] n) 5)
  have hz2 := bl2.lt
  generalize w1.alloc (.cells (madeCells #[.int .u8 0] n) 5) = w2 at *
  have HR2 := Lib.hid hr2
  have hbs2 := hb2.size
  clear hrow hr2 hb1 CC hmk t1
  refine (leaves_any w2 A A1 n c q c1 ks S HN.out HQ.out (by omega) hqn HS.out.below H32.out ((HA.out.below hb2).mono hbs2) (HR2.out.mono (by omega))).mono ?_
  rintro e w3 ⟨v3, rfl, hown3, hb3⟩
  obtain ⟨A3, c3, rfl⟩ := hown3.shape
  have hlen0 : (lv (kOf ks) S).length = q := by rw [lv_length, HQ.out]
  have hb3s := hb3.size
  have hrows : RowsAt (w3.alloc (.cells #[.slice A3 (lv (kOf ks) S).length c3] 221)) w2.heap.size (kOf ks) S (.slice A3 (lv (kOf ks) S).length c3) (.slice (some ⟨w3.heap.size, 0, none⟩) 1 1) [.slice A3 (lv (kOf ks) S).length c3] := by
    have ho : OwnIt (w3.alloc (.cells #[.slice A3 (lv (kOf ks) S).length c3] 221)) w2.heap.size (.slice A3 (lv (kOf ks) S).length c3) (lv (kOf ks) S) :=
      OwnIt.kept hown3 (fun g hg => Below.heap_alloc w3 _ g (World.ownsRow.lt hown3 g hg).2)
    refine ⟨ho, ⟨rfl, .inr ⟨w3.heap.size, 1, #[.slice A3 (lv (kOf ks) S).length c3], rfl, hb3s, heap_alloc_new w3 _, Nat.le_refl _, by unfold maxLen; omega, rfl, rfl⟩⟩, fun i x hx => ?_⟩
    rcases i with _ | i
    · simp at hx; subst hx; exact ho
    · simp at hx
  have hbel4 : Below w2.heap.size w2 (w3.alloc (.cells #[.slice A3 (lv (kOf ks) S).length c3] 221)) := bel_alloc hb3s hb3
  rw [hlen0] at *
  have HROWS := Lib.hid hrows
  clear hrows hlen0 hown3
  go_wp2_with fail
  go_loopw [9] (fun v wr => ∃ (r : Nat) (g cap : Nat) (vals : List Value), 1 ≤ r ∧ r ≤ L ∧ v = .slice (some ⟨g, 0, none⟩) r cap ∧ Hid (vals.length = r) ∧ Hid (RowsAt wr w2.heap.size (kOf ks) S (.slice A3 q c3) v vals) ∧ Below w2.heap.size w2 wr) (fun v _ => L - (lenOf v))
  case atStart => exact ⟨1, w3.heap.size, 1, [.slice A3 q c3], by omega, hl1, rfl, by show _ = _; rfl, HROWS, hbel4⟩
  case round => as_aux_lemma =>
    clear hbel4 HROWS hb3
    obtain ⟨r, g, cap, vals, hr1, hr2, rfl, hvl, hR, bel⟩ := hrel
    have hbs := bel.size
    by_cases hlt : r < L
    · have hrl : r - 1 < vals.length := by rw [hvl.out]; omega
      obtain ⟨g', cap', Ai, ci, hv, hg, hgl, hcell, hown⟩ := hR.out.at_ hrl
      injection hv with e1 e2 e3
      injection e1 with e1
      injection e1 with e1
      subst e1
      have hsm := row_small HS.out (r := r - 1) (by omega)
      rw [HQ.out] at hsm
      have hnx : rowN (lv (kOf ks) S) vals.length = mrg (lv (kOf ks) S) (pairs (rowN (lv (kOf ks) S) (r - 1))) := by
        rw [hvl.out]
        obtain ⟨r', rfl⟩ : ∃ r', r = r' + 1 := ⟨r - 1, by omega⟩
        rfl
      have hleaf := hR.out.1
      have hlv : (lv (kOf ks) S).length = q := by rw [lv_length, HQ.out]
      have hleafr : Row wr wr.heap.size A3 q 2 (itF (lv (kOf ks) S)) := by
        have h1 := hleaf
        rw [← hlv] at h1
        have h2 := h1.row
        rw [hlv] at h2
        exact h2
      have hrowr := hown.row
      obtain ⟨m, hm⟩ : ∃ m, m = (rowN (lv (kOf ks) S) (r - 1)).length := ⟨_, rfl⟩
      rw [← hm] at hcell hown hrowr hsm
      have CN := Lib.hid (next_any wr A3 Ai q c3 m ci 70368744161280 (lv (kOf ks) S) (rowN (lv (kOf ks) S) (r - 1)) hlv hm.symm (by omega) (by omega) lv_leaf hsm.1 (by omega) hleafr hrowr)
      have HNX := Lib.hid hnx
      have x0 : (0 : Int) ≤ (r : Int) - 1 := by omega
      have x1 : (r : Int) - 1 < (r : Int) := by omega
      have x2 : ((r : Int) - 1).toNat = r - 1 := by omega
      have x3 : IntKind.i64.wrap ((r : Int) - 1) = (r : Int) - 1 := IntWalk.i64_in _ (by omega)
      clear hm hsm hnx hleaf hleafr hrowr hown hlv e2 e3
      clear x2 x3
      go_wp2_with fail
      refine CN.out.mono ?_
      rintro e w5 ⟨v5, rfl, hown5, hb5⟩
      obtain ⟨A5, c5, rfl⟩ := hown5.shape
      have hbs5 := hb5.size
      rw [← HNX.out] at hown5
      obtain ⟨m5, hm5⟩ : ∃ m5, m5 = (rowN (lv (kOf ks) S) vals.length).length := ⟨_, rfl⟩
      have hR5 := hR.out.kept (w' := w5) (fun g _ hlt => hb5.block g hlt)
      have hRa : RowsAt (w5.alloc (.cells #[.slice A5 m5 c5] 221)) w2.heap.size (kOf ks) S (.slice A3 q c3) (.slice (some ⟨g, 0, none⟩) r cap) vals := hR5.kept (fun g _ hlt => Below.heap_alloc w5 _ g hlt)
      have hown5' : OwnIt w5 w2.heap.size (.slice A5 (rowN (lv (kOf ks) S) vals.length).length c5) (rowN (lv (kOf ks) S) vals.length) := own_mono hown5 hbs
      rw [← hm5] at hown5'
      have hOa : OwnIt (w5.alloc (.cells #[.slice A5 m5 c5] 221)) w2.heap.size (.slice A5 m5 c5) (rowN (lv (kOf ks) S) vals.length) := hown5'.kept (fun g hg => Below.heap_alloc w5 _ g (World.ownsRow.lt hown5' g hg).2)
      have hrow := hRa.2.1
      rw [hvl.out] at hrow
      have hbel5 : Below w2.heap.size w2 (w5.alloc (.cells #[.slice A5 m5 c5] 221)) := bel_alloc (by omega) (bel_step hb5 hbs bel)
      have e5 : (mrg (lv (kOf ks) S) (pairs (rowN (lv (kOf ks) S) (r - 1)))).length = m5 := by rw [hm5, HNX.out]
      rw [e5]
      have HRA := Lib.hid hRa
      have HOA := Lib.hid hOa
      have HROW := Lib.hid hrow
      have HB5 := Lib.hid hbel5
      clear e5 hm5 hown5 hown5' hR5 hRa hOa hrow hbel5 hcell CN hb5
      go_wp2_with (at_builtin; refine wpList_app rfl (.tmp 57) (.tmp 66) 223 rfl w2.heap.size 221 j0 _ 1 24 Tryz.underlying223 hj0 hy0 hy1 hy2 rfl (by decide) _ _ _ (by rfl) HROW.out _ 1 1 [.slice A5 m5 c5] (by rfl) (Src.of_blk (Blk.made _ _ _) 1 1 1 rfl) (by intro u hu; simp at hu; subst hu; rfl) (by unfold maxLen; omega) (by omega) (by simp; omega) ?_; intro v6 w6 hown6 hg6 hat6)
      go_roundw
      case rel =>
        go_light
        obtain ⟨g6, cap6, hv6⟩ := own_shape1 hown6
        subst hv6
        have hpush := HRA.out.push HOA.out (by rw [hvl.out]; exact hown6) hg6
        refine ⟨r + 1, g6, cap6, vals ++ [.slice A5 m5 c5], by omega, by omega, rfl, ?_, Lib.hid hpush, HB5.out.grown hg6 (by simp; omega) (fun k hk => (World.ownsRow.lt HROW.out k hk).1)⟩
        show _ = _
        rw [List.length_append, hvl.out]; rfl
      case measure =>
        go_light
        obtain ⟨g6, cap6, hv6⟩ := own_shape1 hown6
        subst hv6
        simp [lenOf]; omega
    · obtain rfl : L = r := by omega
      have hbl : Blk wr w1.heap.size 5 (madeCells #[.int .u8 0] n) := bl2.below bel hz2
      have hrow6 : Row wr w1.heap.size A1 q 1 (numF .i64 S) := HR2.out.below (bel.mono (by omega))
      have hb6 : Below w.heap.size w wr := hb2.trans (bel.mono hbs2)
      obtain ⟨w6, rfl⟩ : ∃ w6 : World, w6 = wr := ⟨_, rfl⟩
      have HROW6 := Lib.hid hrow6
      have HB6 := Lib.hid hb6
      have hc0 : Hid (CntAt (kOf ks) S L L (2 * q - 2) (fun _ => 0)) := by
        intro s
        obtain ⟨L', rfl⟩ : ∃ L', L = L' + 1 := ⟨L - 1, by omega⟩
        rw [HQ.out, restR, Nat.add_sub_cancel]
        show _ = 0 + _
        omega
      have ht0 : Hid (takeOk (kOf ks) S L (2 * q - 2)) := by
        have := htake.out
        rw [HQ.out] at this
        exact .inr this
      have hu0 : Hid (U8s (fun _ => 0) n (madeCells #[.int .u8 0] n)) := U8s.made n
      have hvr : ∃ R', L = R' + 1 ∧ Value.int .i64 ((L : Int) - 1) = .int .i64 (R' : Nat) := ⟨L - 1, by omega, congrArg (Value.int .i64) (by omega)⟩
      have hgz : g < w6.heap.size ∧ w2.heap.size ≤ g := by
        obtain ⟨g', cap', Ai, ci, hv, hg, hgl, _⟩ := hR.out.at_ (i := 0) (by rw [hvl.out]; omega)
        injection hv with e1
        injection e1 with e1
        injection e1 with e1
        omega
      have hgl := hbl.lt
      have HVR := Lib.hid hvr
      clear hrow6 hb6 HR2 bl2 hb2 hb3s hvr
      go_wp2_with fail
      go_loopw [10, 11] (fun tv rv wr => ∃ (R t : Nat) (f : Nat → Nat) (cs : Array Value), R ≤ L ∧ t ≤ 2 * q ∧ tv = .int .i64 t ∧ ((R = 0 ∧ rv = .int .i64 (-1)) ∨ (∃ R', R = R' + 1 ∧ rv = .int .i64 (R' : Nat))) ∧ Hid (takeOk (kOf ks) S R t) ∧ Hid (CntAt (kOf ks) S L R t f) ∧ Hid (U8s f n cs) ∧ Blk wr w1.heap.size 5 cs ∧ Hid (Kept (fun b => b < w6.heap.size ∧ b ≠ w1.heap.size) w6 wr)) (fun _ rv _ => (intOf rv + 1).toNat)
      case atStart => exact ⟨L, 2 * q - 2, _, _, Nat.le_refl _, by omega, congrArg (Value.int .i64) (by omega), .inr HVR.out, ht0, hc0, hu0, hbl, Kept.refl _ _⟩
      case round => as_aux_lemma =>
        clear ht0 hc0 hu0 hbl
        obtain ⟨R, t, f, cs, hRL, ht, rfl, hrv, hT, hC, hU, bl, hK⟩ := hrel
        have hks := hK.out.size
        rcases hrv with ⟨rfl, rfl⟩ | ⟨R', rfl, rfl⟩
        · go_wp2_with fail
          go_ret2
          refine lensPost_yes hE.out (f := f) ?_ hU.out bl rfl (HB6.out.trans (hK.out.below (fun b hb => ⟨by omega, by omega⟩))) (by omega)
          rw [Int.toNat_natCast, hV.out]
          refine List.map_congr_left fun s _ => ?_
          have := hC.out s
          rw [restR] at this
          omega
        · obtain ⟨g', cap', Ai, ci, hv, hg', hgl', hcell, hown⟩ := hR.out.at_ (i := R') (by rw [hvl.out]; omega)
          injection hv with e1 e2 e3
          injection e1 with e1
          injection e1 with e1
          subst e1
          have hsm := (row_small HS.out (r := R') (by omega)).2
          rw [HQ.out] at hsm
          obtain ⟨gx, rfl, hgx, hgxl, hlc, hcm, hcells⟩ := hown.cells (by omega)
          have htl : t ≤ (rowN (lv (kOf ks) S) R').length := by
            rcases hT.out with h0 | h0
            · omega
            · rwa [Nat.add_sub_cancel] at h0
          have hstep := fun s => restR_step (k := kOf ks) (S := S) R' t s htl
          have HST := Lib.hid hstep
          have HCELLS := Lib.hid hcells
          have hleaves := (row_leaves (k := kOf ks) (S := S) R' t htl).1
          obtain ⟨m, hm⟩ : ∃ m, m = (rowN (lv (kOf ks) S) R').length := ⟨_, rfl⟩
          rw [← hm] at hcell hsm hlc htl
          have HM := Lib.hid hm.symm
          have d0 : wr.cell? ⟨g, R', none⟩ = some (.slice (some ⟨gx, 0, none⟩) m ci) := (World.cell?_of_block (a := ⟨g, R', none⟩) (hK.out.block g ⟨hgz.1, by omega⟩)).trans hcell
          have p1 : ∀ w, (Instr.slice 221 (.slice (some ⟨gx, 0, none⟩) m ci) none (some (.int .i64 (t : Int))) none).run Tryz.prog w = .ok (.slice (some ⟨gx, 0, none⟩) t ci) w := by
            intro w
            rw [run_head (P := Tryz.prog) Tryz.underlying221 Tryz.sizeOf226 _ m ci .i64 (t : Int) t rfl (by omega) w]
            unfold cutA
            split
            · rfl
            · simp [add_none']
          have HN0 : Hid (InAt S f f (nl (rowN (lv (kOf ks) S) R') 0)) := by
            intro s
            rw [nl_zero]; simp
          have x0 : (0 : Int) ≤ (R' : Int) := by omega
          have x1 : (R' : Int) < (L : Int) := by omega
          clear hm hstep hcells hown hcell e2 e3 hT
          obtain ⟨wp, rfl⟩ : ∃ wp : World, wp = wr := ⟨_, rfl⟩
          go_wp2_with fail
          go_loopw [12, 86] (fun nv iv wr => ∃ (i : Nat) (f' : Nat → Nat) (cs' : Array Value), i ≤ t ∧ nv = .int .i64 (nl (rowN (lv (kOf ks) S) R') i : Nat) ∧ iv = .int .i64 i ∧ Hid (InAt S f f' (nl (rowN (lv (kOf ks) S) R') i)) ∧ Hid (U8s f' n cs') ∧ Blk wr w1.heap.size 5 cs' ∧ Hid (Kept (fun b => b < w6.heap.size ∧ b ≠ w1.heap.size) w6 wr)) (fun _ i _ => t - (intOf i).toNat)
          case atStart => exact ⟨0, f, cs, by omega, by rw [nl_zero]; rfl, rfl, HN0, hU, bl, hK⟩
          case round => as_aux_lemma =>
            clear bl hU hK HN0 d0 p1
            obtain ⟨i, f', cs', hi, rfl, rfl, hI, hU, bl, hK⟩ := hrel
            have hks2 := hK.out.size
            by_cases hlt : i < t
            · obtain ⟨x, hx⟩ : ∃ x, (rowN (lv (kOf ks) S) R')[i]? = some x := ⟨_, List.getElem?_eq_getElem (by rw [HM.out]; omega)⟩
              obtain ⟨e0, e1⟩ := HCELLS.out i x hx
              have c0 : wr.cell? ⟨gx, i * 2, none⟩ = _ := (World.cell?_of_block (a := ⟨gx, i * 2, none⟩) (hK.out.block gx ⟨hgxl, by omega⟩)).trans e0
              have c1 : wr.cell? ⟨gx, i * 2 + 1, none⟩ = _ := (World.cell?_of_block (a := ⟨gx, i * 2 + 1, none⟩) (hK.out.block gx ⟨hgxl, by omega⟩)).trans e1
              have hnl := nl_succ _ i x hx
              have hnq := (row_leaves (k := kOf ks) (S := S) R' (i + 1) (by rw [HM.out]; omega)).1
              rw [HQ.out] at hnq
              generalize rowN (lv (kOf ks) S) R' = X at *
              obtain ⟨xa, xs⟩ := x
              obtain ⟨lb, hlb⟩ : ∃ lb, lb = leafB (xa, xs) := ⟨_, rfl⟩
              rw [← hlb] at c1 hnl
              simp only at c0
              obtain ⟨N, hN'⟩ : ∃ N, N = nl X i := ⟨_, rfl⟩
              rw [← hN'] at hI hnl ⊢
              have x2 : (0 : Int) ≤ (i : Int) := by omega
              have x3 : (i : Int) < (t : Int) := by omega
              have hgw : gx < wr.heap.size := by omega
              clear hx e0 e1 hN' hlb
              cases lb
              · rw [if_neg (by simp), Nat.add_zero] at hnl
                have HNL := Lib.hid hnl
                clear hnl
                go_wp2_with fail
                go_roundw
                case rel => go_light; exact ⟨i + 1, f', cs', by omega, by rw [HNL.out]; rfl, by go_num, by rw [HNL.out]; exact hI, hU, bl.alloc _, hK.out.alloc (fun b hb => by have := hb.1; omega) _⟩
                case measure => go_light; simp [intOf]; omega
              · rw [if_pos rfl] at hnl
                have hNq : N < q := by omega
                obtain ⟨b, off, s, rfl, hbb, hs, d0⟩ := num_cell HROW6.out HQ.out hNq
                have d1 : wr.cell? ⟨b, off + N, none⟩ = _ := (World.cell?_of_block (a := ⟨b, off + N, none⟩) (hK.out.block b ⟨by omega, by omega⟩)).trans d0
                have hsn := HS.out.below s (List.mem_of_getElem? hs)
                have hbl := bl.lt
                have c2 := bl.cell s
                rw [hU.out.2 s hsn] at c2
                have f2 := bl.frozen s
                obtain ⟨hst, hfs⟩ := hI.out.step HS.out.nodup hs
                have hle := restR_le hC.out hl1 s
                have hU2 := hU.out.set (g := fun j => if j = s then f' s + 1 else f' j) (i := s) (v := f' s + 1) (by simp) (fun j hj => by simp [hj])
                have hfb : f' s ≤ 15 := by omega
                have HNL := Lib.hid hnl
                have HST := Lib.hid hst
                have HU2 := Lib.hid hU2
                obtain ⟨fs, hfs'⟩ : ∃ fs, fs = f' s := ⟨_, rfl⟩
                rw [← hfs'] at c2 hfb
                have HFS := Lib.hid hfs'
                have s1 : IntKind.u8.wrap ((fs : Int) + 1) = (fs : Int) + 1 := by rw [IntKind.wrap_u8]; omega
                have y0 : (0 : Int) ≤ (N : Int) := by omega
                have y1 : (N : Int) < (q : Int) := by omega
                have y2 : (0 : Int) ≤ (s : Int) := by omega
                have y3 : (s : Int) < (n : Int) := by omega
                have hbw : b < wr.heap.size := by omega
                clear hnl hst hU2 hfs hle hfs' hs d0
                go_wp2_with fail
                go_roundw
                case rel =>
                  go_light
                  refine ⟨i + 1, _, cs'.setIfInBounds s (.int .u8 ((f' s + 1 : Nat) : Int)), by omega, by rw [HNL.out]; go_num, by go_num, by rw [HNL.out]; exact HST, HU2, ?_, ?_⟩
                  · rw [← HFS.out]
                    exact (bl.set s _).alloc _
                  · exact (hK.out.set (p := ⟨w1.heap.size, s, none⟩) (fun hb => hb.2 rfl) _).alloc (fun b hb => by have := hb.1; simp; omega) _
                case measure => go_light; simp [intOf]; omega
            · obtain rfl : i = t := by omega
              have hE2 : Hid (∀ s, f s + restR (kOf ks) S (R' + 1) i s = f' s + restR (kOf ks) S R' (2 * (i - nl (rowN (lv (kOf ks) S) R') i)) s) := by
                intro s
                have h1 := (HST.out s).1
                have h2 := hI.out s
                omega
              have hT2 := (HST.out 0).2
              have hnle := nl_le (rowN (lv (kOf ks) S) R') i
              have hpl := pairs_le HS.out (R := R') (t := i) (by omega) (by rw [HM.out]; omega)
              rw [HQ.out] at hpl
              generalize nl (rowN (lv (kOf ks) S) R') i = N at *
              have HT2 := Lib.hid hT2
              have HC2 : Hid (CntAt (kOf ks) S L R' (2 * (i - N)) f') := by
                intro s
                rw [hC.out s, hE2.out s]
              have hrr : (R' = 0 ∧ Value.int .i64 ((R' : Int) - 1) = .int .i64 (-1)) ∨ (∃ R2, R' = R2 + 1 ∧ Value.int .i64 ((R' : Int) - 1) = .int .i64 (R2 : Nat)) := by
                rcases R' with _ | R2
                · exact .inl ⟨rfl, rfl⟩
                · exact .inr ⟨R2, rfl, congrArg (Value.int .i64) (by omega)⟩
              have HRR := Lib.hid hrr
              clear hT2 hrr hC hI HST hE2
              go_wp2_with fail
              go_roundw
              case rel => go_light; exact ⟨R', 2 * (i - N), f', cs', by omega, by omega, congrArg (Value.int .i64) (by omega), HRR.out, HT2, HC2, hU, bl, hK⟩
              case measure => go_light; simp [intOf]

theorem lens_new (w : World) (A : Option Addr) (n c : Nat) (ks : List Nat) (limit : Int) (hn : ks.length = n) (hN : n ≤ 9223372036854775807) (hl1 : -9223372036854775808 ≤ limit) (hl2 : limit ≤ 9223372036854775807) (h32 : ∀ x ∈ ks, x < 4294967296) (ha : Row w w.heap.size A n 1 (numF .u32 ks)) :
    Calls Tryz.prog 135 #[.slice A n c, .int .i64 limit] w (LensPostN ks limit w) := by
  by_cases h : n > 300 ∨ limit < 1 ∨ limit > 15
  · exact lens_bad w A n c ks limit hn hN hl1 hl2 h
  · obtain ⟨L, rfl⟩ : ∃ L : Nat, limit = L := ⟨limit.toNat, by omega⟩
    by_cases h1 : 2 ^ L < (order (kOf ks) n).length
    · exact lens_limit w A n c L ks hn (by omega) (by omega) (by omega) h1 ha
    · by_cases h2 : (order (kOf ks) n).length < 2
      · exact lens_few w A n c L ks hn (by omega) (by omega) (by omega) h2 ha
      · exact lens_many w A n c L ks hn (by omega) (by omega) (by omega) (by omega) (by omega) h32 ha
theorem lens_any (w : World) (A : Option Addr) (n c : Nat) (ks : List Nat) (limit : Int) (hn : ks.length = n) (hN : n ≤ 9223372036854775807) (hl1 : -9223372036854775808 ≤ limit) (hl2 : limit ≤ 9223372036854775807) (h32 : ∀ x ∈ ks, x < 4294967296) (ha : Row w w.heap.size A n 1 (numF .u32 ks)) :
    Calls Tryz.prog 135 #[.slice A n c, .int .i64 limit] w (LensPost ks limit w) := (lens_new w A n c ks limit hn hN hl1 hl2 h32 ha).mono fun _ _ h => h.post
end Go.Proofs.YtidclmmnfienlaaGreatDoor.Lens
