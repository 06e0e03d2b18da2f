/-
  A body of a log: the walk of body.Make. Bodies that are made: all ways of body.Make and of the reference's; the example; the walk of the law BodyMakes. No body has nothing: the walks of the methods of a nil body, and of the law BodyNone.
-/
import Derived.Test.YtcafklmbehoggaaGreatDoorZBodyNone28
import Derived.Test.YtcafklmbehoggaaGreatDoorZBodyNone30
import Derived.Test.YtcafklmbehoggaaGreatDoorZBodyNone31
import Derived.Test.YtcafklmbehoggaaGreatDoorZBodyNone3
import Derived.Test.YtcafklmbehoggaaGreatDoorZBodyNone13
import Derived.Deep.RegionHeld3
namespace Go.Proofs.YtcafklmbehoggaaGreatDoor.Body
open Go.RowKit Go.Proofs.YtcafklmbehoggaaGreatDoor.Mem Go.Proofs.YtcafklmbehoggaaGreatDoor.Own Go.Proofs.YtcafklmbehoggaaGreatDoor.Canon Go.Proofs.YtcafklmbehoggaaGreatDoor.NumPut Go.Proofs.YtcafklmbehoggaaGreatDoor.Crc
open Go.Proofs.YtcafklmbehoggaaGreatDoor.Recs Go.Proofs.YtcafklmbehoggaaGreatDoor.Opts Go.Proofs.YtcafklmbehoggaaGreatDoor.Idx
open Go.Proofs.YtcafklmbehoggaaGreatDoor.Block (frameB WPost part_own part_blk write_any)
open Go.Proofs.YtcafklmbehoggaaGreatDoor.One (FrsAt FrsAt.step FrsAt.grown FrsAt.snoc own_grown chkE_ok bytesB_le recF_take recF_drop' info_fr bytesB_split)
def MakePost (o : Opt) (l : List Rec) (w : World) (e : Ending) (w' : World) : Prop :=
  ∃ v, e = .returned (.tuple #[v, .int .i64 0]) ∧ w'.ownsRow w.heap.size 5 1 v (makeB o l).length (numL .u8 (makeB o l)) ∧ Below w.heap.size w w'
set_option maxHeartbeats 8000000 in
set_option maxRecDepth 100000 in
theorem make_any (w : World) (o : Opt) (A : Option Addr) (n c : Nat) (l : List Rec) (ho : optB o = 0) (hn : l.length = n) (hN : n ≤ 1000) (hc : n ≤ c) (hok : ∀ r ∈ l, RecOk r) (hk : chkE l = 0) (hb : (bytesB false l).length ≤ 16000) (hT : (allT (l.map termsR)).length ≤ 20000) (hix : (ixR o l).length ≤ 99000) (ht : TabAt w) (ha : Row w w.heap.size A n 4 (recF l)) :
    Calls Tryz.prog 10 #[o.val, .slice A n c] w (MakePost o l w) := by
  obtain ⟨j0, hj0, hy0, hy1, hy2⟩ := info_parts info_fr
  obtain ⟨i0, hi0, hw0, hw1, hw2⟩ := info_parts Ef.info_inte
  have hlong := chkE_ok hk
  obtain ⟨hb1, hb2, hb3, hb4⟩ := optB_ok ho
  have hgl := countsF_len o l
  have hgs := countsF_sum o l
  have hgp : ∀ x ∈ countsF o l, 1 ≤ x := One.groups_pos _ _
  rw [hn] at hgl
  obtain ⟨blk, pl, bu, da, pa, ch⟩ := o
  simp only at hb1 hb2 hb3 hb4
  obtain ⟨S, rfl⟩ := Int.eq_ofNat_of_zero_le (show 0 ≤ blk by omega)
  obtain ⟨BU, rfl⟩ := Int.eq_ofNat_of_zero_le (show 0 ≤ bu by omega)
  have D1 := Lib.hid (fun wx => bcheck_any wx ⟨(S : Nat), pl, (BU : Nat), da, pa, ch⟩)
  rw [ho] at D1
  have D2 := Lib.hid (fun wx (hx : Below w.heap.size w wx) => rcheck_any wx A n c l hn (by omega) ((ha.below hx).mono hx.size))
  rw [hk] at D2
  have D3 := Lib.hid (fun wx (hx : Below w.heap.size w wx) => groups_any wx S false A n c l (by omega) (by omega) hn (by omega) hok hlong ((ha.below hx).mono hx.size))
  have DC := Lib.hid (fun wx (hx : Below w.heap.size w wx) => columns_any wx A n c l hn (by omega) hc hok ((ha.below hx).mono hx.size))
  have hszl : ∀ r ∈ l, r.source.size ≤ 50000 ∧ r.text.size ≤ 50000 := fun r hr => by
    obtain ⟨a, b⟩ := longB_false (hlong r hr)
    omega
  have DB := Lib.hid (fun wx (hx : Below w.heap.size w wx) => build_any wx A n c l hn (by omega) hszl ((ha.below hx).mono hx.size))
  unfold IxPost at DB
  have hix1 := ids_ok l
  have DX := Lib.hid (fun wx base vT vL vals (h : IxAt wx base vT vL vals (allT (l.map termsR)) ((allT (l.map termsR)).map (idsT (l.map termsR)))) => ixbytes_any wx BU n base vT vL vals (allT (l.map termsR)) ((allT (l.map termsR)).map (idsT (l.map termsR))) (by omega) (by omega) (by omega) hT (by rw [List.length_map]) (all_may (by omega)) (fun x hx => (hix1.2 x hx).1) (by rw [← hn]; exact hix1.1) h)
  have hIXe : ixR ⟨(S : Nat), pl, (BU : Nat), da, pa, ch⟩ l = ixO BU n (allT (l.map termsR)) ((allT (l.map termsR)).map (idsT (l.map termsR))) := by unfold ixR; rw [hn]; rfl
  rw [← hIXe] at DX
  unfold GroupsPost at D3
  unfold ColsPost at DC
  have hcE : groupsP S (lensB false l) = countsF ⟨(S : Nat), pl, (BU : Nat), da, pa, ch⟩ l := rfl
  rw [hcE] at D3
  unfold MakePost Opt.val
  unfold Opt.val at D1
  simp only at D1 ⊢
  have HMB : Hid (makeB ⟨(S : Nat), pl, (BU : Nat), da, pa, ch⟩ l = joinP n (countsF ⟨(S : Nat), pl, (BU : Nat), da, pa, ch⟩ l) (framesW false pl (countsF ⟨(S : Nat), pl, (BU : Nat), da, pa, ch⟩ l) l) (colsB l) (ixR ⟨(S : Nat), pl, (BU : Nat), da, pa, ch⟩ l)) := by show _ = _; unfold makeB; rw [hn]
  have hcl := colsB_len hok (by omega)
  rw [hn] at hcl
  have hc8 := colsB_u8 hok
  have hix8 := ixR_u8 ⟨(S : Nat), pl, (BU : Nat), da, pa, ch⟩ l
  have hfl := framesW_len false pl (countsF ⟨(S : Nat), pl, (BU : Nat), da, pa, ch⟩ l) l hb
  generalize makeB ⟨(S : Nat), pl, (BU : Nat), da, pa, ch⟩ l = MB at *
  generalize countsF ⟨(S : Nat), pl, (BU : Nat), da, pa, ch⟩ l = G at *
  generalize ixR ⟨(S : Nat), pl, (BU : Nat), da, pa, ch⟩ l = IX at *
  generalize colsB l = CB at *
  generalize allT (l.map termsR) = TS at *
  generalize TS.map (idsT (l.map termsR)) = LS at *
  obtain ⟨g, hg⟩ : ∃ g, g = G.length := ⟨_, rfl⟩
  rw [← hg] at D3 hgl hfl
  obtain ⟨FR, hFR⟩ : ∃ FR, FR = framesW false pl G l := ⟨_, rfl⟩
  rw [← hFR] at HMB hfl
  have HFR := Lib.hid hFR
  have HGL := Lib.hid hg
  have HGS := Lib.hid hgs
  have HPOS := Lib.hid hgp
  have HT := Lib.hid ht
  have HOK := Lib.hid hok
  have HLO := Lib.hid hlong
  have HN := Lib.hid hn
  have HC8 := Lib.hid hc8
  have HFL := Lib.hid hfl
  have HIX := Lib.hid hix
  have HIX8 := Lib.hid hix8
  have HRA : Hid (Row w w.heap.size A n 4 (recF l)) := ha
  clear ho hk hcE hg hgs hgp ht hok hlong hFR hszl hix1 hIXe hc8 hfl hn hix ha hT hix8
  go_enter Tryz.func10, Tryz.ntmps10
  go_wp2_with fail
  have hba : Blk (w.alloc (.cells #[.int .i64 S, .bool pl, .int .i64 BU, .int .i64 da, .int .i64 pa, .int .i64 ch] 23)) w.heap.size 23 #[.int .i64 S, .bool pl, .int .i64 BU, .int .i64 da, .int .i64 pa, .int .i64 ch] := Blk.made _ _ _
  have hbw : Below w.heap.size w (w.alloc (.cells #[.int .i64 S, .bool pl, .int .i64 BU, .int .i64 da, .int .i64 pa, .int .i64 ch] 23)) := bel_alloc0 (Below.refl _ _)
  have hzw : (w.alloc (.cells #[.int .i64 S, .bool pl, .int .i64 BU, .int .i64 da, .int .i64 pa, .int .i64 ch] 23)).heap.size = w.heap.size + 1 := by simp
  generalize w.alloc (.cells #[.int .i64 S, .bool pl, .int .i64 BU, .int .i64 da, .int .i64 pa, .int .i64 ch] 23) = wa at *
  have hzw2 : w.heap.size < wa.heap.size := by omega
  have HBW := Lib.hid hbw
  have HS : Hid (∀ wx, Below wa.heap.size wa wx → wx.cell? ⟨w.heap.size, 0, none⟩ = some (.int .i64 S) ∧ wx.cell? ⟨w.heap.size, 1, none⟩ = some (.bool pl) ∧ wx.cell? ⟨w.heap.size, 2, none⟩ = some (.int .i64 BU)) := fun wx h => ⟨(hba.step h).cell 0, (hba.step h).cell 1, (hba.step h).cell 2⟩
  have HWA : Hid (∀ wx, Below wa.heap.size wa wx → Below w.heap.size w wx) := fun wx h => hbw.trans (h.mono hbw.size)
  clear hba hbw hzw
  refine (D1.out _).mono ?_
  rintro e w1 ⟨rfl, hb1'⟩
  have B1 := Lib.hid hb1'
  have E2 := Lib.hid (D2.out w1 (HWA.out _ hb1'))
  clear hb1' D1 D2
  go_wp2_with fail
  refine E2.out.mono ?_
  rintro e w2 ⟨rfl, hb2'⟩
  have B2 : Hid (Below wa.heap.size wa w2) := bel_step0 hb2' B1.out
  have E3 := Lib.hid (D3.out w2 (HWA.out _ B2.out))
  have k0 := (HS.out w2 B2.out).1
  clear hb2' E2 D3 B1
  go_wp2_with fail
  refine E3.out.mono ?_
  rintro e w3 ⟨vG, rfl, hoG, hb3'⟩
  obtain ⟨AG, cG, rfl⟩ := own_shape hoG
  have B3 : Hid (Below wa.heap.size wa w3) := bel_step0 hb3' B2.out
  have HOG := Lib.hid (own_mono hoG B2.out.size)
  clear hb3' hoG E3 B2 k0
  have hbd : Blk (w3.alloc (.cells #[.slice AG g cG, .slice none 0 0, .int .i64 0, .int .i64 0] 72)) w3.heap.size 72 #[.slice AG g cG, .slice none 0 0, .int .i64 0, .int .i64 0] := Blk.made _ _ _
  have d0 := hbd.cell 0
  simp only [List.getElem?_toArray, List.getElem?_cons_zero] at d0
  have hbb : Below w3.heap.size w3 (w3.alloc (.cells #[.slice AG g cG, .slice none 0 0, .int .i64 0, .int .i64 0] 72)) := bel_alloc0 (Below.refl _ _)
  have HM0 : Hid (MSt w3.heap.size w3.heap.size (.slice AG g cG) (.slice none 0 0) (.slice none 0 0) [] (w3.alloc (.cells #[.slice AG g cG, .slice none 0 0, .int .i64 0, .int .i64 0] 72))) := ⟨hbd, World.ownsRow_nil _ _ _ _, (fun p hp => by cases hp), World.ownsRow_nil _ _ _ _, Nat.le_refl _⟩
  go_wp2_with fail
  have HB0 := Lib.hid hbb
  clear hbd hbb d0
  generalize w3.alloc (.cells #[.slice AG g cG, .slice none 0 0, .int .i64 0, .int .i64 0] 72) = wd at *
  have HBW3 : Hid (Below w.heap.size w w3) := HWA.out _ B3.out
  go_loopw [9, 10, 39] (fun pv av iv wx => ∃ (k at_ : Nat) (ps : List Part) (vS : Value), k ≤ g ∧ at_ ≤ n ∧ iv = .int .i64 k ∧ av = .int .i64 at_ ∧ Hid (ps.map Part.ls ++ framesW false pl (G.drop k) (l.drop at_) = FR) ∧ Hid (ps.length = k) ∧ Hid (at_ + (G.drop k).sum = n) ∧ Hid (MSt w3.heap.size w3.heap.size (.slice AG g cG) pv vS ps wx) ∧ Hid (Below w3.heap.size w3 wx)) (fun _ _ iv _ => g - (intOf iv).toNat)
  case atStart => exact ⟨0, 0, [], _, by omega, by omega, rfl, rfl, HFR.out.symm, rfl, by show _ = _; rw [List.drop_zero, HGS.out, HN.out]; omega, HM0.out, HB0.out⟩
  case round =>
    obtain ⟨k, at_, ps, vS, hkg, hat, rfl, rfl, HF, HPL, HSM, HM, HB⟩ := hrel
    clear HM0 HB0
    have hz := HB.out.size
    have hpr0 := HM.out.pr
    have hsr0 := HM.out.sr
    rw [HPL.out] at hpr0 hsr0
    obtain ⟨AP, cP, rfl⟩ := own_shape hpr0
    obtain ⟨AS, cS, rfl⟩ := own_shape hsr0
    clear hpr0 hsr0
    by_cases hlt : k < g
    · have hkl : k < G.length := by rw [← HGL.out]; exact hlt
      obtain ⟨m, hm⟩ : ∃ m, m = G[k] := ⟨_, rfl⟩
      have hdr : G.drop k = m :: G.drop (k + 1) := by rw [hm]; exact List.drop_eq_getElem_cons hkl
      have hsm := HSM.out
      have hf := HF.out
      rw [hdr] at hsm hf
      rw [List.sum_cons] at hsm
      rw [framesW, List.drop_drop] at hf
      have HOGx : Hid (wr.ownsRow wa.heap.size 3 1 (.slice AG g cG) g (numL .i64 G)) := own_kept HOG.out (fun y hy => HB.out.block y (World.ownsRow.lt HOG.out y hy).2)
      obtain ⟨gb, gc, hAG, hgb, _⟩ := HOGx.out.form (by omega)
      injection hAG with e1 e2 e3
      subst e1 e3
      have cg : wr.cell? ⟨gb, k, none⟩ = some (.int .i64 (m : Nat)) := by
        rw [(Lz.own_cells HOGx.out hlt).1]
        simp [numL, List.getElem?_eq_getElem hkl, hm]
      have hml : at_ + m ≤ n := by omega
      have ks := fun wx => run_cut2 (P := Tryz.prog) (t := 24) (s := 4) Tryz.underlying24 (fun _ => by kernel_rfl) A n c .i64 .i64 (at_ : Int) ((at_ + m : Nat) : Int) at_ (at_ + m) rfl rfl (by omega) (by omega) wx
      rw [Nat.add_sub_cancel_left] at ks
      have s1 : IntKind.i64.wrap ((at_ : Int) + (m : Int)) = ((at_ + m : Nat) : Int) := by rw [IntWalk.i64_in _ (by omega)]; omega
      have hsub : ((l.drop at_).take m).Sublist l := (List.take_sublist _ _).trans (List.drop_sublist _ _)
      have hbl3 : (bytesB false ((l.drop at_).take m)).length ≤ 16000 := Nat.le_trans (bytesB_le false hsub) hb
      have hb8 := bytesB_u8 false (l := (l.drop at_).take m) (fun r hr => HOK.out r (hsub.subset hr))
      have hrow : Row w w.heap.size (cutA A at_ c 4) m 4 (recF ((l.drop at_).take m)) := HRA.out.cut at_ m hml hc (fun i j hi _ => by rw [recF_drop', recF_take hi])
      have E1 := Lib.hid (fun wx (hx : Below w.heap.size w wx) => bytes_any wx false (cutA A at_ c 4) m (c - at_) ((l.drop at_).take m) (by rw [List.length_take, List.length_drop, HN.out]; omega) (by omega) (fun r hr => HOK.out r (hsub.subset hr)) (fun r hr => HLO.out r (hsub.subset hr)) (by omega) ((hrow.below hx).mono hx.size))
      have E2 := Lib.hid (fun wx A2 c2 (hx : Below w.heap.size w wx) (h : wx.ownsRow w3.heap.size 5 1 (.slice A2 (bytesB false ((l.drop at_).take m)).length c2) (bytesB false ((l.drop at_).take m)).length (numL .u8 (bytesB false ((l.drop at_).take m)))) => write_any wx A2 _ c2 _ pl rfl hbl3 (fun e => (own_wf h).1 e) hb8 (HT.out.step hx) (Part.Ok.row (part_own h rfl)))
      unfold BytesPost at E1
      unfold WPost at E2
      have HF2 := Lib.hid hf
      have HSM2 : Hid (at_ + m + (G.drop (k + 1)).sum = n) := by show _ = _; omega
      have hwx : Below w.heap.size w wr := HBW3.out.trans (HB.out.mono HBW3.out.size)
      have HWX := Lib.hid hwx
      have x0 : (0 : Int) ≤ (k : Int) := by omega
      have x1 : (k : Int) < (g : Int) := by omega
      have gk : decide ((k : Int) < (g : Int)) = true := by simp; omega
      have gk' : decide (k < g) = true := by simp; omega
      have hfm := One.frame_max pl hbl3
      have HS3 : Hid (∀ wx, Below w3.heap.size w3 wx → wx.cell? ⟨w.heap.size, 1, none⟩ = some (.bool pl)) := fun wx h => (HS.out wx (bel_step0 h B3.out)).2.1
      have kp := HS3.out wr HB.out
      generalize bytesB false ((l.drop at_).take m) = BB at *
      generalize frameB BB pl = FF at *
      obtain ⟨bl, hbl⟩ : ∃ bl, bl = BB.length := ⟨_, rfl⟩
      rw [← hbl] at E1 E2 hfm
      generalize cutA A at_ c 4 = AC at *
      generalize c - at_ = cc at *
      obtain ⟨am, ham⟩ : ∃ am, am = at_ + m := ⟨_, rfl⟩
      rw [← ham] at ks s1 hml HSM2 HF2
      have HAM := Lib.hid ham
      clear hkl hm hdr hsm hf HSM HF hb8 hwx hbl hbl3 hrow hsub ham
      go_upto_region 13 with fail
      go_region_held3 (fun wx => wx.cell? ⟨w.heap.size, 1, none⟩ = some (.bool pl)) (first | exact kp | exact kp2 | exact kp3) (first | (go_at_call 36; (with_reducible refine (E1.out _ (Below.drew HWX.out)).mono ?_); rintro e wA ⟨vA, rfl, hoA, hbA⟩; obtain ⟨AA, cA, rfl⟩ := own_shape hoA; have BA : Below w3.heap.size w3 wA := bel_step0 hbA (Below.drew HB.out); have HOA : wA.ownsRow w3.heap.size 5 1 (.slice AA bl cA) bl (numL .u8 BB) := own_mono hoA (by simpa using hz); have BWA : Below w.heap.size w wA := bel_step0 hbA (Below.drew HWX.out); have BRA : Below wr.heap.size wr wA := bel_step0 hbA (Below.drew (Below.refl _ _)); have kp2 := HS3.out wA BA) | (go_at_call 35; (with_reducible refine (E2.out _ _ _ BWA HOA).mono ?_); rintro e wB ⟨vB, rfl, hoB, hbB⟩; obtain ⟨AB, cB, rfl⟩ := own_shape hoB; have BB2 : Below w3.heap.size w3 wB := bel_step0 hbB BA; have BRB : Below wr.heap.size wr wB := bel_step0 hbB BRA; have kp3 := HS3.out wB BB2))
      all_goals
        have HMy : Hid (MSt w3.heap.size w3.heap.size (.slice (some ⟨gb, 0, none⟩) g cG) (.slice AP k cP) (.slice AS k cS) ps wB) := HM.out.step BRB
        have HPy : Hid (wB.ownsRow w3.heap.size 5 1 (.slice AB FF.length cB) FF.length (numL .u8 FF)) := own_mono hoB (by have := BA.size; omega)
        have HBy := Lib.hid BB2
        have HRy := Lib.hid BRB
        have hzy := BB2.size
        obtain ⟨fl2, hfl⟩ : ∃ fl2, fl2 = FF.length := ⟨_, rfl⟩
        rw [← hfl] at HPy hfm ⊢
        have HFL2 := Lib.hid hfl
        have hpr := HMy.out.pr
        have hsr := HMy.out.sr
        rw [HPL.out] at hpr hsr
        have HPR := Lib.hid hpr
        clear hbA hoA BA HOA BWA BRA kp2 hbB hoB BB2 BRB kp3 kp E1 E2 hfl hpr hsr
        go_wp2_with (first | (at_builtin; refine wpList_app rfl (.tmp 59) (.tmp 61) 56 rfl w3.heap.size 29 j0 _ 1 24 Tryz.underlying56 hj0 hy0 hy1 hy2 rfl (by decide) _ _ _ (by rfl) (HPR.out.alloc _) _ 1 1 [.slice AB fl2 cB] (by rfl) (Src.of_blk (g := wB.heap.size) (Blk.made _ _ _) 1 1 1 rfl) (by intro u hu; simp at hu; rcases hu with rfl; rfl) (by unfold maxLen; omega) (by omega) (by simp; omega) ?_; intro v8 w8 hown8 hg8 hat8; obtain ⟨d8, s8⟩ := HMy.out.mid hg8; rw [HPL.out] at s8; have D8 := Lib.hid d8; have S8 := Lib.hid s8; have c8 := d8.cell 1; simp only [List.getElem?_toArray, List.getElem?_cons_zero, List.getElem?_cons_succ] at c8; have hz8 : w3.heap.size ≤ w8.heap.size := Nat.le_trans hzy (Nat.le_trans (by simp) hg8.size); have HG8 := Lib.hid hg8; have HO8 := Lib.hid hown8; clear d8 s8 hg8 hown8 hat8) | (at_builtin; have q1 := S8.out.alloc (.cells #[.int .i64 (fl2 : Nat)] 3); have q2 := (Src.of_blk (w := w8.alloc (.cells #[.int .i64 (fl2 : Nat)] 3)) (g := w8.heap.size) (Blk.made w8 3 #[.int .i64 (fl2 : Nat)]) 1 1 1 rfl); have q3 : w3.heap.size ≤ (w8.alloc (.cells #[.int .i64 (fl2 : Nat)] 3)).heap.size := Nat.le_trans hz8 (by simp); have q4 := D8.out.alloc (.cells #[.int .i64 (fl2 : Nat)] 3); refine wpList_app rfl (.tmp 64) (.tmp 67) 42 rfl w3.heap.size 3 i0 _ 1 8 Tryz.underlying42 hi0 hw0 hw1 hw2 rfl (by decide) _ _ _ (by rfl) q1 _ _ _ _ (by rfl) q2 (by intro u hu; simp at hu; rcases hu with rfl; rfl) (by unfold maxLen; omega) (by omega) q3 ?_; intro v9 w9 hown9 hg9 hat9; obtain ⟨A9, c9, rfl⟩ := own_shape hown9; have d9 := q4.grown hg9 (Ne.symm (own_blk q1 q4 (by decide))); have p9 := d9.cell 1; have q9 := d9.frozen 1; simp only [List.getElem?_toArray, List.getElem?_cons_zero, List.getElem?_cons_succ] at p9; clear q1 q2 q3 q4))
        have hM9 := MSt.round (p := ⟨AB, cB, FF⟩) (pv' := v8) (vS' := .slice A9 (k + 1) c9) HMy.out (by show World.ownsRow _ _ _ _ (.slice AB FF.length cB) FF.length (numL .u8 FF); rw [← HFL2.out]; exact HPy.out) HG8.out (by rw [HPL.out]; show World.ownsRow _ _ _ _ _ _ (_ ++ [.slice AB FF.length cB]); rw [← HFL2.out]; exact HO8.out) hg9 (by rw [HPL.out]; show World.ownsRow _ _ _ _ _ _ (_ ++ [.int .i64 (FF.length : Nat)]); rw [← HFL2.out]; exact hown9)
        have HM9 := Lib.hid hM9.1
        have HB9 : Hid (Below w3.heap.size w3 (w9.setCell ⟨w3.heap.size, 1, none⟩ (.slice A9 (k + 1) c9))) := HBy.out.trans hM9.2
        clear hM9 hown9 hg9 hat9 d9 HG8 HO8 D8 S8 HMy HPR HPy HM HB HRy
        go_wp2_with fail
        go_roundw
        case measure => go_light; simp [intOf]; omega
        case rel => go_light; exact ⟨k + 1, am, ps ++ [(⟨AB, cB, FF⟩ : Part)], .slice A9 (k + 1) c9, by omega, hml, by first | rfl | go_num, by first | rfl | go_num, by show _ = _; rw [List.map_append, List.append_assoc]; exact HF2.out, by show _ = _; rw [List.length_append, HPL.out]; rfl, HSM2.out, HM9.out, HB9.out⟩
    · obtain rfl : k = g := by omega
      have gk : decide ((k : Int) < (k : Int)) = false := by simp
      have gk' : decide (k < k) = false := by simp
      have hf := HF.out
      rw [List.drop_of_length_le (by rw [← HGL.out]; exact Nat.le_refl _), framesW, List.append_nil] at hf
      have HPS := Lib.hid hf
      have HWX : Hid (Below w.heap.size w wr) := HBW3.out.trans (HB.out.mono HBW3.out.size)
      have E4 := Lib.hid (DC.out wr HWX.out)
      clear hf HF HSM
      go_wp2_with fail
      refine E4.out.mono ?_
      rintro e w4 ⟨v4, rfl, ho4, hb4'⟩
      obtain ⟨A4, c4, rfl⟩ := own_shape ho4
      have P4 : Hid (Part.Ok (⟨A4, c4, CB⟩ : Part) w4) := part_own ho4 rfl
      have HW4 : Hid (Below w.heap.size w w4) := bel_step0 hb4' HWX.out
      have HM4 := Lib.hid (HM.out.step hb4')
      have HB4 : Hid (Below w3.heap.size w3 w4) := bel_step hb4' hz HB.out
      have E5 := Lib.hid (put_any w4 A4 CB.length c4 CB rfl (by omega) P4.out.nil HC8.out (HT.out.step HW4.out) P4.out.row)
      unfold PutPost at E5
      obtain ⟨cl, hcl4⟩ : ∃ cl, cl = CB.length + 4 := ⟨_, rfl⟩
      rw [← hcl4] at E5
      have HCL := Lib.hid hcl4
      have hclb : cl ≤ 30000 := by omega
      clear ho4 hb4' E4 DC hcl4 HM HB P4
      go_wp2_with fail
      refine E5.out.mono ?_
      rintro e w5 ⟨v5, rfl, ho5, hb5⟩
      obtain ⟨A5, c5, rfl⟩ := own_shape ho5
      have HW5 : Hid (Below w.heap.size w w5) := bel_step0 hb5 HW4.out
      have HM5 := Lib.hid (HM4.out.step hb5)
      have HB5 : Hid (Below w3.heap.size w3 w5) := bel_step hb5 HB4.out.size HB4.out
      have HO5 : Hid (w5.ownsRow w3.heap.size 5 1 (.slice A5 cl c5) cl (numL .u8 (putC CB))) := own_mono ho5 HB4.out.size
      have HS5 : Hid (∀ wx, Below w3.heap.size w3 wx → wx.cell? ⟨w.heap.size, 2, none⟩ = some (.int .i64 BU)) := fun wx h => (HS.out wx (bel_step0 h B3.out)).2.2
      have kp := HS5.out w5 HB5.out
      clear ho5 hb5 E5 HM4 HB4 HW4
      go_upto_region 21 with fail
      go_region_held3 (fun wx => wx.cell? ⟨w.heap.size, 2, none⟩ = some (.int .i64 BU)) (first | exact kp | exact kp2 | exact kp3) (first | (go_at_call 40; (with_reducible refine (DB.out _ (Below.drew HW5.out)).mono ?_); rintro e wA ⟨vT, vL, vals, rfl, hIX, hbA⟩; have BA : Below w5.heap.size w5 wA := bel_step0 hbA (Below.drew (Below.refl _ _)); have kp2 := HS5.out wA (bel_step BA HB5.out.size HB5.out)) | (go_at_call 39; (with_reducible refine (DX.out _ _ _ _ _ hIX).mono ?_); rintro e w6 ⟨v6, rfl, ho6, hb6⟩; obtain ⟨A6, c6, rfl⟩ := own_shape ho6; have B6 : Below w5.heap.size w5 w6 := bel_step0 hb6 BA; have kp3 := HS5.out w6 (bel_step B6 HB5.out.size HB5.out)))
      all_goals
        have P6 : Hid (Part.Ok (⟨A6, c6, IX⟩ : Part) w6) := part_own ho6 rfl
        have HM6 := Lib.hid (HM5.out.step B6)
        have HB6 : Hid (Below w3.heap.size w3 w6) := bel_step B6 HB5.out.size HB5.out
        have HW6 : Hid (Below w.heap.size w w6) := bel_step0 B6 HW5.out
        have HO56 : Hid (w6.ownsRow w3.heap.size 5 1 (.slice A5 cl c5) cl (numL .u8 (putC CB))) := own_kept HO5.out fun y hy => B6.block y (World.ownsRow.lt HO5.out y hy).2
        have E7 := Lib.hid (put_any w6 A6 IX.length c6 IX rfl (by have := HIX.out; omega) P6.out.nil HIX8.out (HT.out.step HW6.out) P6.out.row)
        unfold PutPost at E7
        obtain ⟨il, hil⟩ : ∃ il, il = IX.length + 4 := ⟨_, rfl⟩
        rw [← hil] at E7
        have HIL := Lib.hid hil
        have hilb : il ≤ 99004 := by have := HIX.out; omega
        clear hIX hbA BA kp2 ho6 hb6 B6 kp3 kp hil HO5 HB5 HW5 HM5 P6
        go_wp2_with fail
        refine E7.out.mono ?_
        rintro e w7 ⟨v7, rfl, ho7, hb7⟩
        obtain ⟨A7, c7, rfl⟩ := own_shape ho7
        have HM7 := Lib.hid (HM6.out.step hb7)
        have HB7 : Hid (Below w3.heap.size w3 w7) := bel_step hb7 HB6.out.size HB6.out
        have HW7 : Hid (Below w.heap.size w w7) := bel_step0 hb7 HW6.out
        have HO7 : Hid (w7.ownsRow w3.heap.size 5 1 (.slice A7 il c7) il (numL .u8 (putC IX))) := own_mono ho7 HB6.out.size
        have HO57 : Hid (w7.ownsRow w3.heap.size 5 1 (.slice A5 cl c5) cl (numL .u8 (putC CB))) := own_kept HO56.out fun y hy => hb7.block y (World.ownsRow.lt HO56.out y hy).2
        have HOG7 : Hid (w7.ownsRow wa.heap.size 3 1 (.slice AG k cG) k (numL .i64 G)) := own_kept HOG.out fun y hy => HB7.out.block y (World.ownsRow.lt HOG.out y hy).2
        have dc2 := HM7.out.dir.cell 2
        have dc3 := HM7.out.dir.cell 3
        have df2 := HM7.out.dir.frozen 2
        have df3 := HM7.out.dir.frozen 3
        simp only [List.getElem?_toArray, List.getElem?_cons_zero, List.getElem?_cons_succ] at dc2 dc3
        clear ho7 hb7 E7 HM6 HB6 HW6 HO56
        go_wp2_with fail
        obtain ⟨hd8, hbl8, hk8⟩ := HM7.out.stores (.int .i64 (cl : Nat)) (.int .i64 (il : Nat))
        have ho5 := hk8 HO57.out (by decide)
        have ho7 := hk8 HO7.out (by decide)
        have hoG := hk8 HOG7.out (by decide)
        have hpr := hk8 HM7.out.pr (by decide)
        have hsr := hk8 HM7.out.sr (by decide)
        have hfr : FrsAt _ w3.heap.size ps := fun p hp => hk8 (HM7.out.fr p hp) (by decide)
        have hB8 := HB7.out.trans hbl8
        have hW8 := HW7.out.trans (hbl8.mono HBW3.out.size)
        rw [HPL.out] at hpr hsr
        clear hk8 hbl8 HO57 HO7 HOG7 HM7 HB7 HW7 dc2 dc3 df2 df3
        generalize (w7.setCell ⟨w3.heap.size, 2, none⟩ (.int .i64 (cl : Nat))).setCell ⟨w3.heap.size, 3, none⟩ (.int .i64 (il : Nat)) = w8 at *
        obtain ⟨SZ, hSZ⟩ : ∃ SZ, SZ = ps.map (fun p => p.ls.length) := ⟨_, rfl⟩
        rw [← hSZ] at hsr
        have hSl : SZ.length = k := by rw [hSZ, List.length_map]; exact HPL.out
        have hSF : FR.map List.length = SZ := by rw [← HPS.out, hSZ, List.map_map]; rfl
        have hSb : ∀ z ∈ SZ, z ≤ 1000000000 := fun z hz => by
          rw [← hSF] at hz
          obtain ⟨f, hf, rfl⟩ := List.mem_map.1 hz
          have h1 := One.flat_le hf
          have h2 := HFL.out
          omega
        have hGn : G.sum = n := HGS.out.trans HN.out
        have E9 := Lib.hid (dirbytes_any w8 w3.heap.size k cG cS cl il w8.heap.size AG AS G SZ HGL.out.symm hSl (by omega) (by omega) hSb (by omega) (by omega) hd8 (Ef.own_row hoG HGL.out.symm) (Ef.own_row hsr hSl) (Nat.le_refl _))
        rw [hGn] at E9
        have hDl := dirP_len (n := n) (G := G) (S := SZ) (x := cl) (y := il) (by omega) (by rw [← HGL.out]; omega) (fun z hz => by have := le_sum hz; omega) hSb (by omega) (by omega)
        have hD8 := dirP_u8 n G SZ cl il
        rw [← HGL.out] at hDl
        have HJ : Hid (MB = FR.flatten ++ (putC CB ++ (putC IX ++ (putC (dirP n G SZ cl il) ++ fix4 (putC (dirP n G SZ cl il)).length)))) := by
          show _ = _
          rw [HMB.out]
          unfold joinP
          rw [hSF, putC_len CB, putC_len IX, ← HCL.out, ← HIL.out]
        generalize dirP n G SZ cl il = DI at *
        have HO5 := Lib.hid ho5
        have HO7 := Lib.hid ho7
        have HPR := Lib.hid hpr
        have HFRS := Lib.hid hfr
        have HB8 := Lib.hid hB8
        have HW8 := Lib.hid hW8
        have HD8 := Lib.hid hD8
        clear ho5 ho7 hoG hpr hsr hfr hB8 hW8 hSZ hSl hSF hSb hGn hd8 hD8 HMB
        refine E9.out.mono ?_
        rintro e w9 ⟨v9, rfl, ho9, hb9⟩
        obtain ⟨A9, c9, rfl⟩ := own_shape ho9
        have P9 : Hid (Part.Ok (⟨A9, c9, DI⟩ : Part) w9) := part_own ho9 rfl
        have HB9 : Hid (Below w3.heap.size w3 w9) := bel_step hb9 HB8.out.size HB8.out
        have HW9 : Hid (Below w.heap.size w w9) := bel_step0 hb9 HW8.out
        have E10 := Lib.hid (put_any w9 A9 DI.length c9 DI rfl (by omega) P9.out.nil HD8.out (HT.out.step HW9.out) P9.out.row)
        unfold PutPost at E10
        obtain ⟨dl, hdl⟩ : ∃ dl, dl = DI.length + 4 := ⟨_, rfl⟩
        rw [← hdl] at E10
        have HDL := Lib.hid hdl
        have hdlb : dl ≤ 30000 := by omega
        have hk9 : ∀ y, y < w8.heap.size → w9.heap[y]? = w8.heap[y]? := hb9.block
        have HO59 : Hid (w9.ownsRow w3.heap.size 5 1 (.slice A5 cl c5) cl (numL .u8 (putC CB))) := own_kept HO5.out fun y hy => hb9.block y (World.ownsRow.lt HO5.out y hy).2
        have HO79 : Hid (w9.ownsRow w3.heap.size 5 1 (.slice A7 il c7) il (numL .u8 (putC IX))) := own_kept HO7.out fun y hy => hb9.block y (World.ownsRow.lt HO7.out y hy).2
        have HPR9 : Hid (w9.ownsRow w3.heap.size 29 1 (.slice AP k cP) k (ps.map Part.v)) := own_kept HPR.out fun y hy => hb9.block y (World.ownsRow.lt HPR.out y hy).2
        have HFR9 : Hid (FrsAt w9 w3.heap.size ps) := HFRS.out.step hb9
        clear ho9 hb9 E9 hdl HO5 HO7 HPR HFRS hk9 HB8 HW8 P9
        go_wp2_with fail
        refine E10.out.mono ?_
        rintro e w10 ⟨v10, rfl, ho10, hb10⟩
        obtain ⟨A10, c10, rfl⟩ := own_shape ho10
        have HB10 : Hid (Below w3.heap.size w3 w10) := bel_step hb10 HB9.out.size HB9.out
        have HW10 : Hid (Below w.heap.size w w10) := bel_step0 hb10 HW9.out
        have E11 := Lib.hid (fixed4_any w10 dl (by omega))
        have u9 : IntKind.u64.wrap (dl : Int) = (dl : Int) := by rw [IntKind.wrap_u64]; omega
        have HO10 : Hid (w10.ownsRow w3.heap.size 5 1 (.slice A10 dl c10) dl (numL .u8 (putC DI))) := own_mono ho10 HB9.out.size
        have HO510 : Hid (w10.ownsRow w3.heap.size 5 1 (.slice A5 cl c5) cl (numL .u8 (putC CB))) := own_kept HO59.out fun y hy => hb10.block y (World.ownsRow.lt HO59.out y hy).2
        have HO710 : Hid (w10.ownsRow w3.heap.size 5 1 (.slice A7 il c7) il (numL .u8 (putC IX))) := own_kept HO79.out fun y hy => hb10.block y (World.ownsRow.lt HO79.out y hy).2
        have HPR10 : Hid (w10.ownsRow w3.heap.size 29 1 (.slice AP k cP) k (ps.map Part.v)) := own_kept HPR9.out fun y hy => hb10.block y (World.ownsRow.lt HPR9.out y hy).2
        have HFR10 : Hid (FrsAt w10 w3.heap.size ps) := HFR9.out.step hb10
        clear ho10 hb10 E10 HO59 HO79 HPR9 HFR9 HB9 HW9
        go_wp2_with fail
        refine E11.out.mono ?_
        rintro e w11 ⟨v11, rfl, ho11, hb11⟩
        obtain ⟨A11, c11, rfl⟩ := own_shape ho11
        have HB11 : Hid (Below w3.heap.size w3 w11) := bel_step hb11 HB10.out.size HB10.out
        have HW11 : Hid (Below w.heap.size w w11) := bel_step0 hb11 HW10.out
        have HO11 : Hid (w11.ownsRow w3.heap.size 5 1 (.slice A11 4 c11) 4 (numL .u8 (fix4 dl))) := own_mono ho11 HB10.out.size
        have HO1011 : Hid (w11.ownsRow w3.heap.size 5 1 (.slice A10 dl c10) dl (numL .u8 (putC DI))) := own_kept HO10.out fun y hy => hb11.block y (World.ownsRow.lt HO10.out y hy).2
        have HO511 : Hid (w11.ownsRow w3.heap.size 5 1 (.slice A5 cl c5) cl (numL .u8 (putC CB))) := own_kept HO510.out fun y hy => hb11.block y (World.ownsRow.lt HO510.out y hy).2
        have HO711 : Hid (w11.ownsRow w3.heap.size 5 1 (.slice A7 il c7) il (numL .u8 (putC IX))) := own_kept HO710.out fun y hy => hb11.block y (World.ownsRow.lt HO710.out y hy).2
        have HPR11 : Hid (w11.ownsRow w3.heap.size 29 1 (.slice AP k cP) k (ps.map Part.v)) := own_kept HPR10.out fun y hy => hb11.block y (World.ownsRow.lt HPR10.out y hy).2
        have HFR11 : Hid (FrsAt w11 w3.heap.size ps) := HFR10.out.step hb11
        have hz11 := HB11.out.size
        clear ho11 hb11 E11 HO10 HO510 HO710 HPR10 HFR10 HB10 HW10
        go_wp2_with (at_builtin; have q1 := HPR11.out.alloc (.cells #[.slice A5 cl c5, .slice A7 il c7, .slice A10 dl c10, .slice A11 4 c11] 29); have q2 := (Src.of_blk (w := w11.alloc (.cells #[.slice A5 cl c5, .slice A7 il c7, .slice A10 dl c10, .slice A11 4 c11] 29)) (g := w11.heap.size) (Blk.made w11 29 #[.slice A5 cl c5, .slice A7 il c7, .slice A10 dl c10, .slice A11 4 c11]) 4 4 1 rfl); have q3 : w3.heap.size ≤ (w11.alloc (.cells #[.slice A5 cl c5, .slice A7 il c7, .slice A10 dl c10, .slice A11 4 c11] 29)).heap.size := Nat.le_trans hz11 (by simp); refine wpList_app rfl (.tmp 107) (.tmp 112) 56 rfl w3.heap.size 29 j0 _ 1 24 Tryz.underlying56 hj0 hy0 hy1 hy2 rfl (by decide) _ _ _ (by rfl) q1 _ _ _ _ (by rfl) q2 (by intro u hu; simp at hu; rcases hu with rfl | rfl | rfl | rfl <;> rfl) (by unfold maxLen; omega) (by omega) q3 ?_; intro v12 w12 hown12 hg12 hat12; obtain ⟨g12, c12, rfl⟩ := own_shape1 hown12)
        have hq1 := HPR11.out.alloc (.cells #[.slice A5 cl c5, .slice A7 il c7, .slice A10 dl c10, .slice A11 4 c11] 29)
        have r5 := own_grown (HO511.out.alloc _) hq1 (by decide) hg12
        have r7 := own_grown (HO711.out.alloc _) hq1 (by decide) hg12
        have r10 := own_grown (HO1011.out.alloc _) hq1 (by decide) hg12
        have r11 := own_grown (HO11.out.alloc _) hq1 (by decide) hg12
        have rfr : FrsAt w12 w3.heap.size ps := (HFR11.out.step (bel_alloc0 (Below.refl _ _))).grown hq1 hg12
        have hB12 : Below w3.heap.size w3 w12 := (HB11.out.alloc hz11 _).grown hg12 (by simp; omega) (fun y hy => (World.ownsRow.lt HPR11.out y hy).1)
        have e5 : (putC CB).length = cl := by rw [putC_len, HCL.out]
        have e7 : (putC IX).length = il := by rw [putC_len, HIL.out]
        have e10 : (putC DI).length = dl := by rw [putC_len, HDL.out]
        have e11 : (fix4 dl).length = 4 := rfl
        obtain ⟨PS, hPS⟩ : ∃ PS : List Part, PS = ps ++ [⟨A5, c5, putC CB⟩, ⟨A7, c7, putC IX⟩, ⟨A10, c10, putC DI⟩, ⟨A11, c11, fix4 dl⟩] := ⟨_, rfl⟩
        have hPSl : PS.length = k + 3 + 1 := by rw [hPS, List.length_append, HPL.out]; rfl
        have hPSv : PS.map Part.v = ps.map Part.v ++ [.slice A5 cl c5, .slice A7 il c7, .slice A10 dl c10, .slice A11 4 c11] := by
          rw [hPS, List.map_append]
          simp only [List.map_cons, List.map_nil, Part.v, e5, e7, e10, e11]
        have hPSf : PS.flatMap Part.ls = MB := by
          rw [hPS, List.flatMap_append, HJ.out, ← HPS.out, e10]
          simp [List.flatMap]
        have hsum : sumL PS ≤ 1000000000 := by
          unfold sumL
          rw [hPSf, HJ.out]
          simp only [List.length_append, e5, e7, e10]
          have h1 := HFL.out
          have h2 : (fix4 dl).length = 4 := rfl
          omega
        have hok : ∀ p ∈ PS, p.Ok w12 := fun p hp => by
          rw [hPS] at hp
          rcases List.mem_append.1 hp with hp | hp
          · exact part_own (rfr p hp) rfl
          · rcases List.mem_cons.1 hp with rfl | hp
            · rw [← e5] at r5; exact part_own r5 rfl
            · rcases List.mem_cons.1 hp with rfl | hp
              · rw [← e7] at r7; exact part_own r7 rfl
              · rcases List.mem_cons.1 hp with rfl | hp
                · rw [← e10] at r10; exact part_own r10 rfl
                · rw [List.mem_singleton.1 hp]; exact part_own r11 rfl
        have hgl12 := (World.ownsRow.lt hown12 g12 rfl).2
        have E12 := Lib.hid (all_row w12 g12 (k + 3 + 1) c12 PS hPSl (by omega) hsum hok hgl12 (fun i hi => by
          rw [(Lz.own_cells hown12 (by rw [← hPSl]; exact hi)).1]
          have h : (PS.map Part.v)[i]? = some PS[i].v := by rw [List.getElem?_map, List.getElem?_eq_getElem hi]; rfl
          rw [hPSv] at h
          exact h))
        rw [hPSf] at E12
        have HB12 := Lib.hid hB12
        clear hq1 r5 r7 r10 r11 rfr e5 e7 e10 e11 hPS hPSl hPSv hPSf hsum hok hgl12 hown12 hg12 hat12 hB12 HPR11 HFR11 HO511 HO711 HO1011 HO11
        refine E12.out.mono ?_
        rintro e w13 ⟨v13, rfl, ho13, hb13⟩
        have HO13 := Lib.hid (own_mono ho13 (Nat.le_trans HBW3.out.size HB12.out.size))
        have HB13 : Hid (Below w.heap.size w w13) := bel_step hb13 (Nat.le_trans HBW3.out.size HB12.out.size) (HBW3.out.trans (HB12.out.mono HBW3.out.size))
        clear ho13 hb13 E12
        go_wp2_with fail
        go_ret2
        exact ⟨v13, rfl, HO13.out, HB13.out⟩
end Go.Proofs.YtcafklmbehoggaaGreatDoor.Body
namespace Go.Proofs.YtcafklmbehoggaaGreatDoor.Body
open Go.RowKit Go.Proofs.YtcafklmbehoggaaGreatDoor.Mem Go.Proofs.YtcafklmbehoggaaGreatDoor.Own Go.Proofs.YtcafklmbehoggaaGreatDoor.Canon Go.Proofs.YtcafklmbehoggaaGreatDoor.NumPut Go.Proofs.YtcafklmbehoggaaGreatDoor.Crc
open Go.Proofs.YtcafklmbehoggaaGreatDoor.Recs Go.Proofs.YtcafklmbehoggaaGreatDoor.Opts Go.Proofs.YtcafklmbehoggaaGreatDoor.Idx
open Go.Proofs.YtcafklmbehoggaaGreatDoor.Block (part_own)
theorem fix4_u8 (x : Nat) : ∀ y ∈ fix4 x, y ≤ 255 := fun y h => by
  unfold fix4 at h
  simp only [List.mem_cons, List.not_mem_nil, or_false] at h
  rcases h with rfl | rfl | rfl | rfl <;> omega
theorem joinP_u8 {n : Nat} {G : List Nat} {FS : List (List Nat)} {cols idx : List Nat} (h1 : ∀ x ∈ FS.flatten, x ≤ 255) (h2 : ∀ x ∈ cols, x ≤ 255) (h3 : ∀ x ∈ idx, x ≤ 255) : ∀ x ∈ joinP n G FS cols idx, x ≤ 255 := fun x hx => by
  unfold joinP at hx
  simp only [List.mem_append] at hx
  rcases hx with hx | hx | hx | hx | hx
  · exact h1 x hx
  · exact putC_u8 h2 x hx
  · exact putC_u8 h3 x hx
  · exact putC_u8 (dirP_u8 _ _ _ _ _) x hx
  · exact fix4_u8 _ x hx
def exB : Opt := ⟨16, false, 1, 0, 0, 0⟩
theorem ex_make : makeB exB [] = joinP 0 [] [] [] [0] := by
  have h1 : ixR exB [] = [0] := by
    unfold ixR ixO listsO dictO
    simp [allT, buckets, bucketsS, numB_low]
  have h2 : countsF exB [] = [] := rfl
  have h3 : colsB ([] : List Rec) = [] := by
    unfold colsB
    simp [timesL, levelsL, timesG, lvB]
  unfold makeB
  rw [h1, h2, h3]
  rfl
set_option maxHeartbeats 1000000 in
set_option maxRecDepth 100000 in
theorem alive20 (w : World) (ht : TabAt w) : Calls Tryz.prog 7 #[] w fun e w' => e = .returned (.bool true) ∧ Below w.heap.size w w' := by
  have hix : (ixR exB []).length ≤ 99000 := (ix_small (o := exB) (l := []) (n := 0) rfl (by omega) (by simp [weight_nil])).2 (by decide)
  have D1 := Lib.hid (make_any w exB none 0 0 [] (by decide) rfl (by omega) (Nat.le_refl _) (by simp) (by decide) (by simp [bytesB]) (by simp [allT]) hix ht Row.zero)
  unfold MakePost at D1
  rw [ex_make] at D1
  unfold Opt.val exB at D1
  simp only at D1
  have D2 : Hid (∀ wx : World, Calls Tryz.prog 30 #[.int .i64 0, .slice none 0 0, .slice none 0 0, .slice none 0 0, .slice (some ⟨wx.heap.size, 0, none⟩) 1 1] (wx.alloc (.cells #[.int .u8 0] 5)) fun e w' => ∃ v, e = .returned v ∧ w'.ownsRow (wx.alloc (.cells #[.int .u8 0] 5)).heap.size 5 1 v (joinP 0 [] [] [] [0]).length (numL .u8 (joinP 0 [] [] [] [0])) ∧ Below (wx.alloc (.cells #[.int .u8 0] 5)).heap.size (wx.alloc (.cells #[.int .u8 0] 5)) w') := fun wx => by
    have hk3 : Blk (wx.alloc (.cells #[.int .u8 0] 5)) wx.heap.size 5 #[.int .u8 0] := Blk.made _ _ _
    exact rjoin20_any (wx.alloc (.cells #[.int .u8 0] 5)) 0 0 0 0 0 0 1 none none none (some ⟨wx.heap.size, 0, none⟩) [] [] [] [0] (by omega) (by omega) rfl rfl (by simp) (by simp) (by simp) (by simp) (by simp) (by simp) (World.ownsRow_nil _ _ _ _) (fun p hp => by cases hp) Row.zero ⟨Row.zero, fun _ => ⟨rfl, rfl⟩⟩ ⟨Row.of_blk hk3 hk3.lt fun i j hi hj => by
      obtain rfl : j = 0 := by omega
      match i, hi with
      | 0, _ => rfl, fun e => by cases e⟩
  have hF8 : ∀ x ∈ joinP 0 [] [] [] [0], x ≤ 255 := joinP_u8 (by simp) (by simp) (by simp)
  obtain ⟨L, hL⟩ : ∃ L, L = (joinP 0 [] [] [] [0]).length := ⟨_, rfl⟩
  rw [← hL] at D1 D2
  generalize joinP 0 [] [] [] [0] = F at *
  have DS : Hid (∀ (wx wa : World) Ax cx Ay cy, wa.ownsRow w.heap.size 5 1 (.slice Ax L cx) L (numL .u8 F) → Below wa.heap.size wa wx → (∃ b, wx.ownsRow b 5 1 (.slice Ay L cy) L (numL .u8 F)) → Calls Tryz.prog 12 #[.slice Ax L cx, .slice Ay L cy] wx fun e w' => e = .returned (.bool true) ∧ wx = w') := fun wx wa Ax cx Ay cy hx hb ⟨b, hy⟩ => by
    have P := (part_own hx hL.symm).step hb
    have Q := part_own hy hL.symm
    have p1 := P.row
    have q1 := Q.row
    simp only [← hL] at p1 q1
    refine (Huff.same_any wx Ax Ay L L cx cy F F hL.symm hL.symm (fun e => hL.trans (P.nil e).1) (fun e => hL.trans (Q.nil e).1) hF8 hF8 p1 q1).mono ?_
    rintro e w' ⟨rfl, rfl⟩
    exact ⟨by simp, rfl⟩
  clear hF8 ht hix hL
  go_enter Tryz.func7, Tryz.ntmps7
  go_wp2_with fail
  refine D1.out.mono ?_
  rintro e w1 ⟨v1, rfl, ho1, hb1⟩
  obtain ⟨A1, c1, rfl⟩ := own_shape ho1
  have HO1 := Lib.hid ho1
  have HB1 := Lib.hid hb1
  have E2 := Lib.hid (D2.out w1)
  clear ho1 hb1 D1 D2
  go_wp2_with fail
  refine E2.out.mono ?_
  rintro e w2 ⟨v2, rfl, ho2, hb2⟩
  obtain ⟨A2, c2, rfl⟩ := own_shape ho2
  have HB2 : Hid (Below w1.heap.size w1 w2) := bel_step0 hb2 (bel_alloc0 (Below.refl _ _))
  have E3 := Lib.hid (DS.out w2 w1 A1 c1 A2 c2 HO1.out HB2.out ⟨_, ho2⟩)
  clear ho2 hb2 E2 DS HO1
  go_wp2_with fail
  refine E3.out.mono ?_
  rintro e w3 ⟨rfl, rfl⟩
  go_wp2_with fail
  go_ret
  exact ⟨rfl, bel_step0 HB2.out HB1.out⟩
end Go.Proofs.YtcafklmbehoggaaGreatDoor.Body
namespace Go.Proofs.YtcafklmbehoggaaGreatDoor.Body
open Go.RowKit Go.Proofs.YtcafklmbehoggaaGreatDoor.Mem Go.Proofs.YtcafklmbehoggaaGreatDoor.Own Go.Proofs.YtcafklmbehoggaaGreatDoor.Canon Go.Proofs.YtcafklmbehoggaaGreatDoor.Recs Go.Proofs.YtcafklmbehoggaaGreatDoor.Idx
open Go.Proofs.YtcafklmbehoggaaGreatDoor.Crc (TabAt)
set_option maxRecDepth 100000 in
theorem len_nil (w : World) : Calls Tryz.prog 19 #[.pointer none] w fun e w' => e = .returned (.int .i64 0) ∧ w = w' := by
  go_enter Tryz.func19, Tryz.ntmps19
  go_wp2_with fail
  go_ret
  exact ⟨rfl, rfl⟩
set_option maxRecDepth 100000 in
theorem blocks_nil (w : World) : Calls Tryz.prog 20 #[.pointer none] w fun e w' => e = .returned (.slice none 0 0) ∧ w = w' := by
  go_enter Tryz.func20, Tryz.ntmps20
  go_wp2_with fail
  go_ret
  exact ⟨rfl, rfl⟩
set_option maxRecDepth 100000 in
theorem times_nil (w : World) : Calls Tryz.prog 21 #[.pointer none] w fun e w' => e = .returned (.slice none 0 0) ∧ w = w' := by
  go_enter Tryz.func21, Tryz.ntmps21
  go_wp2_with fail
  go_ret
  exact ⟨rfl, rfl⟩
set_option maxRecDepth 100000 in
theorem levels_nil (w : World) : Calls Tryz.prog 22 #[.pointer none] w fun e w' => e = .returned (.slice none 0 0) ∧ w = w' := by
  go_enter Tryz.func22, Tryz.ntmps22
  go_wp2_with fail
  go_ret
  exact ⟨rfl, rfl⟩
set_option maxRecDepth 100000 in
theorem opened_nil (w : World) : Calls Tryz.prog 23 #[.pointer none] w fun e w' => e = .returned (.slice none 0 0) ∧ w = w' := by
  go_enter Tryz.func23, Tryz.ntmps23
  go_wp2_with fail
  go_ret
  exact ⟨rfl, rfl⟩
set_option maxRecDepth 100000 in
theorem index_nil (w : World) : Calls Tryz.prog 25 #[.pointer none] w fun e w' => e = .returned (.agg #[.slice none 0 0, .slice none 0 0]) ∧ Below w.heap.size w w' := by
  go_enter Tryz.func25, Tryz.ntmps25
  go_wp2_with fail
  refine bodyPost_ret (v := .agg #[.slice none 0 0, .slice none 0 0]) ?_ rfl ⟨rfl, ?_⟩
  · simp [results, Tryz.results25, go_sem]
  · (repeat (first | (with_reducible exact Below.refl _ _) | (with_reducible assumption) | (with_reducible refine Below.drew ?_) | (with_reducible refine below_drewN ?_ _) | ((with_reducible refine bel_set ?_ ?_); (focus (first | (simp; done) | (simp; omega) | omega | (simp at *; omega)))) | (with_reducible refine bel_alloc0 ?_) | (with_reducible refine bel_step0 (by assumption) ?_) | ((with_reducible refine bel_alloc ?_ ?_); (focus (first | (simp; done) | (simp; omega) | omega | (simp at *; omega)))) | ((with_reducible refine bel_step (by assumption) ?_ ?_); (focus (first | (simp; done) | (simp; omega) | omega | (simp at *; omega))))))
set_option maxRecDepth 100000 in
theorem fetch_nil (w : World) (k : Int) : Calls Tryz.prog 17 #[.pointer none, .int .i64 k] w fun e w' => e = .returned (.tuple #[.slice none 0 0, .int .i64 13]) ∧ w = w' := by
  go_enter Tryz.func17, Tryz.ntmps17
  go_wp2_with fail
  go_ret2
  exact ⟨rfl, rfl⟩
set_option maxRecDepth 100000 in
theorem log_nil (w : World) : Calls Tryz.prog 18 #[.pointer none] w fun e w' => e = .returned (.tuple #[.slice none 0 0, .int .i64 13]) ∧ w = w' := by
  go_enter Tryz.func18, Tryz.ntmps18
  go_wp2_with fail
  go_ret2
  exact ⟨rfl, rfl⟩
set_option maxRecDepth 100000 in
theorem block_nil (w : World) (i : Int) : Calls Tryz.prog 16 #[.pointer none, .int .i64 i] w fun e w' => e = .returned (.tuple #[.int .i64 0, .bool false]) ∧ w = w' := by
  have C := Lib.hid (len_nil w)
  by_cases h : i < 0
  · have g : decide (i < 0) = true := by simpa using h
    clear h C
    go_enter Tryz.func16, Tryz.ntmps16
    go_wp2_with fail
    go_ret2
    exact ⟨rfl, rfl⟩
  · have g : decide (i < 0) = false := by simpa using h
    have g2 : decide (0 ≤ i) = true := by simp; omega
    clear h
    go_enter Tryz.func16, Tryz.ntmps16
    go_wp2_with fail
    refine C.out.mono ?_
    rintro e w' ⟨rfl, rfl⟩
    go_wp2_with fail
    go_ret2
    exact ⟨rfl, rfl⟩
set_option maxHeartbeats 1000000 in
set_option maxRecDepth 100000 in
theorem same18_nil (w : World) : Calls Tryz.prog 24 #[.agg #[.slice none 0 0, .slice none 0 0], .agg #[.slice none 0 0, .slice none 0 0]] w fun e w' => e = .returned (.bool true) ∧ Below w.heap.size w w' := by
  have C := Lib.hid (fun wx => rsame15_any wx none none 0 0 0 0 [] [] rfl rfl (by omega) Row.zero Row.zero)
  go_enter Tryz.func24, Tryz.ntmps24
  go_wp2_with fail
  refine (C.out _).mono ?_
  rintro e w' ⟨rfl, q, rfl⟩
  go_wp2_with fail
  go_loopw [5] (fun iv wx => iv = .int .i64 0 ∧ wx = ((w.alloc (.cells #[.slice none 0 0, .slice none 0 0] 51)).alloc (.cells #[.slice none 0 0, .slice none 0 0] 51)).drewN q) (fun iv _ => 0)
  case atStart => exact ⟨rfl, rfl⟩
  case round =>
    obtain ⟨rfl, rfl⟩ := hrel
    go_wp2_with fail
    go_ret
    refine ⟨rfl, ?_⟩
    (repeat (first | (with_reducible exact Below.refl _ _) | (with_reducible assumption) | (with_reducible refine Below.drew ?_) | (with_reducible refine below_drewN ?_ _) | ((with_reducible refine bel_set ?_ ?_); (focus (first | (simp; done) | (simp; omega) | omega | (simp at *; omega)))) | (with_reducible refine bel_alloc0 ?_) | (with_reducible refine bel_step0 (by assumption) ?_) | ((with_reducible refine bel_alloc ?_ ?_); (focus (first | (simp; done) | (simp; omega) | omega | (simp at *; omega)))) | ((with_reducible refine bel_step (by assumption) ?_ ?_); (focus (first | (simp; done) | (simp; omega) | omega | (simp at *; omega))))))
set_option maxHeartbeats 1000000 in
set_option maxRecDepth 100000 in
theorem law_none (w : World) (i : Int) (ht : TabAt w) : Calls Tryz.prog 5 #[.int .i64 i] w fun e w' => e = .returned (.bool true) ∧ Below w.heap.size w w' := by
  have D0 := Lib.hid (alive20 w ht)
  clear ht
  go_enter Tryz.func5, Tryz.ntmps5
  go_wp2_with fail
  refine D0.out.mono ?_
  rintro e w1 ⟨rfl, hb1⟩
  have B1 : Hid (Below w.heap.size w w1) := hb1
  clear hb1 D0
  go_wp2_with fail
  refine (block_nil _ _).mono ?_
  rintro e w2 ⟨rfl, rfl⟩
  go_wp2_with fail
  refine (fetch_nil _ _).mono ?_
  rintro e w2 ⟨rfl, rfl⟩
  go_wp2_with fail
  refine (log_nil _).mono ?_
  rintro e w2 ⟨rfl, rfl⟩
  go_wp2_with fail
  refine (len_nil _).mono ?_
  rintro e w2 ⟨rfl, rfl⟩
  go_wp2_with fail
  refine (blocks_nil _).mono ?_
  rintro e w2 ⟨rfl, rfl⟩
  go_wp2_with fail
  refine (times_nil _).mono ?_
  rintro e w2 ⟨rfl, rfl⟩
  go_wp2_with fail
  refine (levels_nil _).mono ?_
  rintro e w2 ⟨rfl, rfl⟩
  go_wp2_with fail
  refine (opened_nil _).mono ?_
  rintro e w2 ⟨rfl, rfl⟩
  go_wp2_with fail
  refine (index_nil _).mono ?_
  rintro e w2 ⟨rfl, hb2⟩
  have B2 : Hid (Below w.heap.size w w2) := bel_step0 hb2 B1.out
  clear hb2 B1
  go_wp2_with fail
  refine (same18_nil _).mono ?_
  rintro e w3 ⟨rfl, hb3⟩
  have B3 : Hid (Below w.heap.size w w3) := bel_step0 hb3 B2.out
  clear hb3 B2
  go_wp2_with fail
  go_ret
  exact ⟨rfl, B3.out⟩
end Go.Proofs.YtcafklmbehoggaaGreatDoor.Body
