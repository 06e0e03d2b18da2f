/-
  The walk of one.reader's block. The log of an archive of version 1: the plain form (the walk of reader.log is still to be written). Archives of version 1 unpacked: the plain form; what was packed is unpacked; what was turned has a wrong sum. No walk. The walk of one.reader's log. The walk of one.Unpack. The walk of the law OneBack; the archive's length. The walk of the law OneTurned.
-/
import Derived.Test.YtmgjgkdbagbleaaGreatDoorZOneTurned30
import Derived.Test.YtmgjgkdbagbleaaGreatDoorZOneTurned29
import Derived.Test.YtmgjgkdbagbleaaGreatDoorZOneTurned36
import Derived.Test.YtmgjgkdbagbleaaGreatDoorZOneTurned38
import Derived.Test.YtmgjgkdbagbleaaGreatDoorZOneTurned6
namespace Go.Proofs.YtmgjgkdbagbleaaGreatDoor.One
open Go.RowKit Go.Proofs.YtmgjgkdbagbleaaGreatDoor.Mem Go.Proofs.YtmgjgkdbagbleaaGreatDoor.Own Go.Proofs.YtmgjgkdbagbleaaGreatDoor.Canon Go.Proofs.YtmgjgkdbagbleaaGreatDoor.NumPut Go.Proofs.YtmgjgkdbagbleaaGreatDoor.Nums Go.Proofs.YtmgjgkdbagbleaaGreatDoor.Opts
open Go.Proofs.YtmgjgkdbagbleaaGreatDoor.Recs Go.Proofs.YtmgjgkdbagbleaaGreatDoor.Block
open Go.Proofs.YtmgjgkdbagbleaaGreatDoor.Crc (row_num_drop row_num_take run_cuth' TabAt)
def blkE (x : List Nat) : Int := if opE x ≠ 0 then opE x else if (readRecs (opO x)).2 ≠ 0 then (readRecs (opO x)).2 else if (readRecs (opO x)).1.length = 0 then 2 else 0
def blkO (x : List Nat) : List Rec := if blkE x = 0 then (readRecs (opO x)).1 else []
theorem Held.cut {w : World} {A : Option Addr} {c k : Nat} {ls : List Nat} (h : Held w A c ls) (hk : k ≤ ls.length) : Held w (cutA A k c 1) (c - k) (ls.drop k) := by
  refine ⟨?_, ?_, fun e => ?_⟩
  · rw [List.length_drop]; exact row_num_drop h.row hk h.cap
  · rw [List.length_drop]; have := h.cap; omega
  · have := h.none (cutA_some e)
    rw [List.length_drop]
    omega
set_option maxHeartbeats 2000000 in
set_option maxRecDepth 100000 in
theorem block_any (w : World) (r g base : Nat) (bs : List Nat) (A : Option Addr) (c at_ : Nat) (X : Option Addr) (d : Nat) (u2 u3 u4 u5 u6 u7 u8 u9 : Value) (hle : bs.length ≤ 100000) (h8 : ∀ x ∈ bs, x ≤ 255) (ht : TabAt w) (hX : Held w X d bs) (h : Cur w g base bs A c at_ 0) (hr : Blk w r 95 #[.pointer (some ⟨g, 0, none⟩), .slice X bs.length d, u2, u3, u4, u5, u6, u7, u8, u9]) :
    Calls Tryz.prog 132 #[.pointer (some ⟨r, 0, none⟩)] w fun e w' => ∃ v, e = .returned (.tuple #[v, .int .i64 (blkE (bs.drop at_))]) ∧
      w'.ownsRow w.heap.size 77 4 v (blkO (bs.drop at_)).length (recL (blkO (bs.drop at_))) ∧ (blkE (bs.drop at_) = 0 → Cur w' g base bs A c (at_ + opA (bs.drop at_)) 0) ∧ Kept (Apart g r w) w w' ∧ Blk w' r 95 #[.pointer (some ⟨g, 0, none⟩), .slice X bs.length d, u2, u3, u4, u5, u6, u7, u8, u9] := by
  have hrl := hr.lt
  have hrg : r ≠ g := Blk.apart hr h.blk (by decide)
  have hat := h.le
  have x0 := hr.cell 0
  have x1 := hr.cell 1
  simp only [List.getElem?_toArray, List.getElem?_cons_zero, List.getElem?_cons_succ] at x0 x1
  have ks := fun wx => run_cut (P := Tryz.prog) (t := 22) (s := 1) Tryz.underlying22 (fun _ => by kernel_rfl) X bs.length d .i64 (at_ : Int) at_ rfl hat wx
  have hx8 : ∀ x ∈ bs.drop at_, x ≤ 255 := fun x hx => h8 x (List.mem_of_mem_drop hx)
  have hxl : (bs.drop at_).length = bs.length - at_ := List.length_drop
  have D1 : Hid (∀ wx, Below w.heap.size w wx → Calls Tryz.prog 175 #[.pointer (some ⟨g, 0, none⟩)] wx fun e' w' => e' = .returned (.int .i64 (at_ : Nat)) ∧ w' = wx) := fun wx hb => at_any wx g base bs A c at_ 0 (h.step hb)
  have D2 : Hid (∀ wx, Below w.heap.size w wx → Calls Tryz.prog 155 #[.slice (cutA X at_ d 1) (bs.length - at_) (d - at_)] wx (ReadPost (bs.drop at_) wx)) := fun wx hb => by
    have hH := (hX.step hb).cut hat
    refine read_any wx (bs.drop at_) _ _ _ hxl (by omega) (by have := hH.cap; omega) (fun e => by have := hH.none e; omega) (fun h0 => row_head5 hH.row (by omega)) hx8 (ht.step hb) ?_
    have h5 := hH.row
    rw [hxl] at h5
    exact h5
  have KP : Hid (∀ wx, Below w.heap.size w wx → wx.cell? ⟨r, 0, none⟩ = some (.pointer (some ⟨g, 0, none⟩)) ∧ wx.cell? ⟨r, 1, none⟩ = some (.slice X bs.length d)) := fun wx hb => ⟨(hb.cell (p := ⟨r, 0, none⟩) hrl).trans x0, (hb.cell (p := ⟨r, 1, none⟩) hrl).trans x1⟩
  unfold ReadPost at D2
  have hol := opO_le hx8
  have ho8 := opO_u8 hx8
  have hob := op_bounds hx8
  rw [hxl] at hob
  generalize bs.drop at_ = x at *
  have F1 : Hid (opE x ≠ 0 → blkE x = opE x ∧ blkO x = []) := fun h => by
    have e : blkE x = opE x := if_pos h
    exact ⟨e, by unfold blkO; rw [if_neg (by rw [e]; exact h)]⟩
  have F2 : Hid (opE x = 0 → (readRecs (opO x)).2 ≠ 0 → blkE x = (readRecs (opO x)).2 ∧ blkO x = []) := fun h h2 => by
    have e : blkE x = (readRecs (opO x)).2 := by unfold blkE; rw [if_neg (by simpa using h), if_pos h2]
    exact ⟨e, by unfold blkO; rw [if_neg (by rw [e]; exact h2)]⟩
  have F3 : Hid (opE x = 0 → (readRecs (opO x)).2 = 0 → (readRecs (opO x)).1.length = 0 → blkE x = 2 ∧ blkO x = []) := fun h h2 h3 => by
    have e : blkE x = 2 := by unfold blkE; rw [if_neg (by simpa using h), if_neg (by simpa using h2), if_pos h3]
    exact ⟨e, by unfold blkO; rw [if_neg (by rw [e]; decide)]⟩
  have F4 : Hid (opE x = 0 → (readRecs (opO x)).2 = 0 → (readRecs (opO x)).1.length ≠ 0 → blkE x = 0 ∧ blkO x = (readRecs (opO x)).1) := fun h h2 h3 => by
    have e : blkE x = 0 := by unfold blkE; rw [if_neg (by simpa using h), if_neg (by simpa using h2), if_neg h3]
    exact ⟨e, by unfold blkO; rw [if_pos e]⟩
  generalize blkE x = E0 at *
  generalize blkO x = O0 at *
  generalize opA x = oa at *
  have H := Lib.hid h
  have HR := Lib.hid hr
  have HOB := Lib.hid hob
  have HO8 := Lib.hid ho8
  have HOL : Hid ((opO x).length ≤ 100000) := by show _ ≤ _; omega
  clear hX h hr hx8 hxl ht hob ho8 hol
  generalize hm : bs.length - at_ = mm at *
  have HM := Lib.hid hm
  clear hm
  go_enter Tryz.func132, Tryz.ntmps132
  go_upto_region 1 with fail
  have b0 : Below w.heap.size w w.drew := (Below.refl _ _).drew
  go_region_held3 (fun wx => wx.cell? ⟨r, 0, none⟩ = some (.pointer (some ⟨g, 0, none⟩)) ∧ wx.cell? ⟨r, 1, none⟩ = some (.slice X bs.length d)) (first | exact ⟨x0, x1⟩ | exact KP.out _ (by assumption)) (first | (go_at_call 155; (with_reducible refine (D2.out _ (by assumption)).mono ?_); rintro e' w' ⟨v, rfl, hown, hb⟩; have bN : Below w.heap.size w w' := bel_step (by assumption) (Below.size (by assumption)) (by assumption)) | (go_at_call 175; (with_reducible refine (D1.out _ (by assumption)).mono ?_); rintro e' w' ⟨rfl, rfl⟩))
  obtain ⟨va, vc, rfl⟩ := own_shape hown
  have hgl := H.out.blk.lt
  have hc1 := H.out.step bN
  have br1 := HR.out.step bN
  have y0 := br1.cell 0
  simp only [List.getElem?_toArray, List.getElem?_cons_zero] at y0
  have HC1 := Lib.hid hc1
  have BR1 := Lib.hid br1
  have HB := Lib.hid bN
  have HO : Hid (w'.ownsRow w.heap.size 5 1 (.slice va (opO x).length vc) (opO x).length (numL .u8 (opO x))) := hown
  clear hown hb b0 bN hc1 br1 D1 D2 KP x0 x1 ks
  by_cases he : opE x = 0
  · have hoA := (HOB.out he).1
    have hEA : takeA bs at_ 0 oa = at_ + oa := (takeA0 _ _ _).trans (if_neg (by rw [HM.out]; omega))
    have hEE : takeE bs at_ 0 oa = 0 := (takeE0 _ _ _).trans (if_neg (by rw [HM.out]; omega))
    have DT := Lib.hid (take_any w' g base bs A c at_ 0 oa hle (by have := HM.out; omega) HC1.out)
    unfold TakePost at DT
    rw [hEA, hEE] at DT
    have F2 := Lib.hid (F2.out he)
    have F3 := Lib.hid (F3.out he)
    have F4 := Lib.hid (F4.out he)
    have g1 : (opE x != 0) = false := by simp [he]
    clear hEA hEE HOB he F1
    go_wp2_with fail
    refine DT.out.mono ?_
    rintro e w2 ⟨vt, rfl, hownt, hc2, hk2⟩
    have HO2 : Hid (w2.ownsRow w.heap.size 5 1 (.slice va (opO x).length vc) (opO x).length (numL .u8 (opO x))) := own_kept HO.out (fun y hy => hk2.block y ⟨(World.ownsRow.lt HO.out y hy).2, by have := (World.ownsRow.lt HO.out y hy).1; omega⟩)
    have HK2 : Hid (Kept (Apart g r w) w w2) := (Kept.of_below HB.out (fun y hy => hy.1)).trans ⟨hk2.os, hk2.tape, hk2.output, hk2.size, fun y hy => hk2.block y ⟨Nat.lt_of_lt_of_le hy.1 HB.out.size, hy.2.1⟩⟩
    have HR2 : Hid (Blk w2 r 95 #[.pointer (some ⟨g, 0, none⟩), .slice X bs.length d, u2, u3, u4, u5, u6, u7, u8, u9]) := (hk2.block r ⟨Nat.lt_of_lt_of_le hrl HB.out.size, hrg⟩).trans BR1.out
    have DR := Lib.hid (recsread_any w2 va (opO x).length vc (opO x) rfl HOL.out HO8.out (own_none HO2.out) (own_row HO2.out))
    unfold RecsPost at DR
    have HC2 := Lib.hid hc2
    generalize readRecs (opO x) = R at *
    generalize (opO x).length = ol at *
    obtain ⟨rl, re⟩ := R
    simp only at DR ⊢
    clear hownt hc2 hk2 DT HO HO2 HOL HC1
    by_cases hre : re = 0
    · subst hre
      by_cases hl : rl.length = 0
      · obtain ⟨rfl, rfl⟩ := F3.out rfl hl
        have g2 : (((rl.length : Nat) : Int) == 0) = true := by rw [hl]; rfl
        clear F2 F3 F4
        rw [hl] at DR
        go_wp2_with fail
        refine DR.out.mono ?_
        rintro e w3 ⟨v3, rfl, hown3, hb3⟩
        obtain ⟨va3, vc3, rfl⟩ := own_shape hown3
        have HB3 := Lib.hid hb3
        clear hown3 hb3 DR
        go_wp2_with fail
        go_ret2
        exact ⟨_, rfl, World.ownsRow_nil _ _ _ _, fun h => absurd h (by decide), HK2.out.trans (Kept.of_below HB3.out (fun y hy => Nat.lt_of_lt_of_le hy.1 HK2.out.size)), (HB3.out.block r (Nat.lt_of_lt_of_le hrl HK2.out.size)).trans HR2.out⟩
      · obtain ⟨rfl, rfl⟩ := F4.out rfl hl
        have g2 : (((O0.length : Nat) : Int) == 0) = false := beq_eq_false_iff_ne.2 (by omega)
        have g4 : decide (O0 = []) = false := by simp; intro h; simp [h] at hl
        clear F2 F3 F4 hl
        go_wp2_with fail
        refine DR.out.mono ?_
        rintro e w3 ⟨v3, rfl, hown3, hb3⟩
        obtain ⟨va3, vc3, rfl⟩ := own_shape hown3
        have HB3 := Lib.hid hb3
        have HO3 := Lib.hid hown3
        clear hown3 hb3 DR
        go_wp2_with fail
        go_ret2
        exact ⟨_, rfl, own_mono HO3.out HK2.out.size, by first | exact HC2.out.step HB3.out | exact fun _ => HC2.out.step HB3.out, HK2.out.trans (Kept.of_below HB3.out (fun y hy => Nat.lt_of_lt_of_le hy.1 HK2.out.size)), (HB3.out.block r (Nat.lt_of_lt_of_le hrl HK2.out.size)).trans HR2.out⟩
    · have g2 : (re != 0) = true := by simpa using hre
      have HRE := Lib.hid hre
      obtain ⟨rfl, rfl⟩ := F2.out hre
      clear F2 F3 F4 hre
      go_wp2_with fail
      refine DR.out.mono ?_
      rintro e w3 ⟨v3, rfl, hown3, hb3⟩
      obtain ⟨va3, vc3, rfl⟩ := own_shape hown3
      have HB3 := Lib.hid hb3
      clear hown3 hb3 DR
      go_wp2_with fail
      go_ret2
      exact ⟨_, rfl, World.ownsRow_nil _ _ _ _, fun h => absurd h HRE.out, HK2.out.trans (Kept.of_below HB3.out (fun y hy => Nat.lt_of_lt_of_le hy.1 HK2.out.size)), (HB3.out.block r (Nat.lt_of_lt_of_le hrl HK2.out.size)).trans HR2.out⟩
  · obtain ⟨e1, rfl⟩ := F1.out he
    subst e1
    have g1 : (opE x != 0) = true := by simpa using he
    clear F1 F2 F3 F4 HOB
    have HE := Lib.hid he
    clear he
    go_wp2_with fail
    go_ret2
    exact ⟨_, rfl, World.ownsRow_nil _ _ _ _, fun h => absurd h HE.out, Kept.of_below HB.out (fun y hy => hy.1), BR1.out⟩
end Go.Proofs.YtmgjgkdbagbleaaGreatDoor.One
namespace Go.Proofs.YtmgjgkdbagbleaaGreatDoor.One
open Go.Proofs.YtmgjgkdbagbleaaGreatDoor.Recs Go.Proofs.YtmgjgkdbagbleaaGreatDoor.Block Go.Proofs.YtmgjgkdbagbleaaGreatDoor.Nums
def logGo (bs : List Nat) : Nat → Nat → List Rec → List Rec × Int × Nat
  | 0, at_, acc => (acc, 0, at_)
  | k + 1, at_, acc => if blkE (bs.drop at_) ≠ 0 then ([], blkE (bs.drop at_), at_) else logGo bs k (at_ + opA (bs.drop at_)) (acc ++ blkO (bs.drop at_))
theorem readR_len {bs : List Nat} (h8 : ∀ x ∈ bs, x ≤ 255) : ∀ (f at_ : Nat) (acc : List Rec), at_ ≤ bs.length → acc.length ≤ at_ → (readR f bs at_ acc).1.length ≤ bs.length
  | 0, at_, acc, h, ha => by unfold readR; exact Nat.le_trans ha h
  | f + 1, at_, acc, h, ha => by
    unfold readR
    split
    · exact Nat.le_trans ha h
    · split
      · simp
      · rename_i h1 h2
        have hs := recR_spec h8 h 0
        have h3 := hs.2.1 (by omega)
        refine readR_len h8 f _ _ hs.1 ?_
        rw [List.length_append, List.length_singleton]
        omega
theorem blkO_len {x : List Nat} (h8 : ∀ y ∈ x, y ≤ 255) : (blkO x).length ≤ max 32768 x.length := by
  unfold blkO
  split
  · exact Nat.le_trans (readR_len (opO_u8 h8) _ 0 [] (Nat.zero_le _) (Nat.le_refl _)) (opO_le h8)
  · simp
end Go.Proofs.YtmgjgkdbagbleaaGreatDoor.One
namespace Go.Proofs.YtmgjgkdbagbleaaGreatDoor.One
open Go.Proofs.YtmgjgkdbagbleaaGreatDoor.Recs Go.Proofs.YtmgjgkdbagbleaaGreatDoor.Block Go.Proofs.YtmgjgkdbagbleaaGreatDoor.Nums Go.Proofs.YtmgjgkdbagbleaaGreatDoor.NumPut Go.Proofs.YtmgjgkdbagbleaaGreatDoor.Opts Go.Proofs.YtmgjgkdbagbleaaGreatDoor.Crc
def logR (bs : List Nat) (N M a : Nat) : List Rec × Int :=
  if (logGo bs M a []).2.1 ≠ 0 then ([], (logGo bs M a []).2.1) else if 0 < bs.length - (logGo bs M a []).2.2 ∨ (logGo bs M a []).1.length ≠ N then ([], 2) else if chkE (logGo bs M a []).1 ≠ 0 then ([], chkE (logGo bs M a []).1) else ((logGo bs M a []).1, 0)
def opt0 : Opt := ⟨0, false, 0, 0, 0, 0⟩
def unR (bs : List Nat) : List Rec × Int := logR (wholeO bs) (hN (wholeO bs)) (hM (wholeO bs)) (hA5 (wholeO bs))
def unE (bs : List Nat) : Int := if wholeE bs ≠ 0 then wholeE bs else if headE (wholeO bs) ≠ 0 then headE (wholeO bs) else (unR bs).2
def unO (bs : List Nat) : Opt := if unE bs = 0 then hO (wholeO bs) else opt0
def unL (bs : List Nat) : List Rec := if unE bs = 0 then (unR bs).1 else []
def unN (bs : List Nat) : Nat := if unE bs = 0 then hM (wholeO bs) else 0
theorem un_turned {o : Opt} {l : List Rec} {X : List Nat} {first k : Nat} (h8 : ∀ x ∈ bodyO o l, x ≤ 255) (hk : k ≤ 32) (h : Tn (packB o l) 5 first k X true) : unE X = 5 ∧ unL X = [] ∧ unN X = 0 := by
  have hs := Tn.sum h8 hk h
  obtain ⟨t, ht⟩ : ∃ t, packB o l = 70 :: 73 :: 82 :: 75 :: 1 :: t := ⟨_, rfl⟩
  have hl : X.length = (packB o l).length := h.1
  have h5 : X.take 5 = [70, 73, 82, 75, 1] := by rw [h.2.2.1, ht]; rfl
  have hl5 : 5 ≤ X.length := by rw [hl, ht]; simp
  have h4 : X.take 4 = [70, 73, 82, 75] := by
    have : (X.take 5).take 4 = X.take 4 := by rw [List.take_take]; rfl
    rw [← this, h5]
    rfl
  have hg : X.getD 4 0 = 1 := by
    have : (X.take 5)[4]? = X[4]? := by rw [List.getElem?_take_of_lt (by omega)]
    rw [List.getD_eq_getElem?_getD, ← this, h5]
    rfl
  obtain ⟨m1, m2⟩ := marked_ok (by omega) h4 (by rw [hg]; omega)
  have hC : cutE X = 5 := by unfold cutE; rw [if_neg (by omega), if_neg hs]
  have hW : wholeE X = 5 := by
    unfold wholeE
    rw [m1, m2, hg, hC]
    simp
  have hE : unE X = 5 := by unfold unE; rw [hW, if_pos (by simp)]
  exact ⟨hE, by unfold unL; rw [hE, if_neg (by simp)], by unfold unN; rw [hE, if_neg (by simp)]⟩
end Go.Proofs.YtmgjgkdbagbleaaGreatDoor.One
namespace Go.Proofs.YtmgjgkdbagbleaaGreatDoor.One
open Go.RowKit Go.Proofs.YtmgjgkdbagbleaaGreatDoor.Mem Go.Proofs.YtmgjgkdbagbleaaGreatDoor.Own Go.Proofs.YtmgjgkdbagbleaaGreatDoor.Canon Go.Proofs.YtmgjgkdbagbleaaGreatDoor.NumPut Go.Proofs.YtmgjgkdbagbleaaGreatDoor.Nums Go.Proofs.YtmgjgkdbagbleaaGreatDoor.Opts
open Go.Proofs.YtmgjgkdbagbleaaGreatDoor.Recs Go.Proofs.YtmgjgkdbagbleaaGreatDoor.Block
open Go.Proofs.YtmgjgkdbagbleaaGreatDoor.Crc (TabAt)
theorem row_apart {w w' : World} {g r base n : Nat} {X : Option Addr} {f : Nat → Nat → Value} (h : Row w base X n 1 f) (hk : Kept (Apart g r w) w w') (hb : base ≤ w.heap.size) (hg : base ≤ g) (hr : base ≤ r) : Row w' base X n 1 f :=
  h.keep fun p hp => World.cell?_of_block (hk.block p.block ⟨by omega, by omega, by omega⟩)
theorem kept_apart {a w w' : World} {g r : Nat} (h : Kept (Apart g r a) a w) (k : Kept (Apart g r w) w w') : Kept (Apart g r a) a w' :=
  h.trans ⟨k.os, k.tape, k.output, k.size, fun x hx => k.block x ⟨Nat.lt_of_lt_of_le hx.1 h.size, hx.2.1, hx.2.2⟩⟩
theorem tab_apart {w w' : World} {g r base : Nat} (h : TabAt w) (hk : Kept (Apart g r w) w w') (hb : 0 < base) (hg : base ≤ g) (hr : base ≤ r) : TabAt w' := fun i hi =>
  (World.cell?_of_block (hk.block _ ⟨h.lt, by show 0 ≠ g; omega, by show 0 ≠ r; omega⟩)).trans (h i hi)
def LogPost (w : World) (r g : Nat) (R : List Rec × Int) (cs : Array Value) (e : Ending) (w' : World) : Prop :=
  ∃ v, e = .returned (.tuple #[v, .int .i64 R.2]) ∧ w'.ownsRow w.heap.size 77 4 v R.1.length (recL R.1) ∧ Kept (Apart g r w) w w' ∧ Blk w' r 95 cs
theorem one_recL (l : List Rec) : ∀ u ∈ recL l, u.oneCell' = true := by
  intro u hu
  unfold recL at hu
  obtain ⟨r, _, hr⟩ := List.mem_flatMap.1 hu
  simp at hr
  rcases hr with rfl | rfl | rfl | rfl <;> rfl
set_option maxHeartbeats 2000000 in
set_option maxRecDepth 100000 in
theorem log_any (w : World) (r g base : Nat) (bs : List Nat) (A : Option Addr) (c a0 : Nat) (X : Option Addr) (d N M : Nat) (y2 y3 y4 y5 y6 y7 : Value) (hle : bs.length ≤ 100000) (hM : M ≤ 20000) (h8 : ∀ x ∈ bs, x ≤ 255) (ht : TabAt w) (hcap : bs.length ≤ d) (hnil : X = none → bs.length = 0 ∧ d = 0) (hX : Row w base X bs.length 1 (numF .u8 bs)) (hbr : base ≤ r) (hbg : 0 < base) (hbw : base ≤ w.heap.size)
    (h : Cur w g base bs A c a0 0) (hr : Blk w r 95 #[.pointer (some ⟨g, 0, none⟩), .slice X bs.length d, y2, y3, y4, y5, y6, y7, .int .i64 (N : Nat), .int .i64 (M : Nat)]) :
    Calls Tryz.prog 63 #[.pointer (some ⟨r, 0, none⟩)] w (LogPost w r g (logR bs N M a0) #[.pointer (some ⟨g, 0, none⟩), .slice X bs.length d, y2, y3, y4, y5, y6, y7, .int .i64 (N : Nat), .int .i64 (M : Nat)]) := by
  obtain ⟨j0, hj0, hy0, hy1, hy2⟩ := info_parts info_rec
  have hrl := hr.lt
  have hlo := h.lo
  have x9 := hr.cell 9
  simp only [List.getElem?_toArray, List.getElem?_cons_zero, List.getElem?_cons_succ] at x9
  have DB : Hid (∀ wx at_, Kept (Apart g r w) w wx → Cur wx g base bs A c at_ 0 → Blk wx r 95 #[.pointer (some ⟨g, 0, none⟩), .slice X bs.length d, y2, y3, y4, y5, y6, y7, .int .i64 (N : Nat), .int .i64 (M : Nat)] → Calls Tryz.prog 132 #[.pointer (some ⟨r, 0, none⟩)] wx fun e w' => ∃ v, e = .returned (.tuple #[v, .int .i64 (blkE (bs.drop at_))]) ∧
      w'.ownsRow wx.heap.size 77 4 v (blkO (bs.drop at_)).length (recL (blkO (bs.drop at_))) ∧ (blkE (bs.drop at_) = 0 → Cur w' g base bs A c (at_ + opA (bs.drop at_)) 0) ∧ Kept (Apart g r wx) wx w' ∧ Blk w' r 95 #[.pointer (some ⟨g, 0, none⟩), .slice X bs.length d, y2, y3, y4, y5, y6, y7, .int .i64 (N : Nat), .int .i64 (M : Nat)]) := fun wx at_ hk hc hb =>
    block_any wx r g base bs A c at_ X d y2 y3 y4 y5 y6 y7 _ _ hle h8 (tab_apart ht hk hbg hlo hbr) ⟨(row_apart hX hk hbw hlo hbr).mono (Nat.le_trans hbw hk.size), hcap, hnil⟩ hc hb
  have DL : Hid (∀ wx at_, Cur wx g base bs A c at_ 0 → Calls Tryz.prog 133 #[.pointer (some ⟨g, 0, none⟩)] wx fun e w' => e = .returned (.int .i64 (bs.length - at_ : Nat)) ∧ ∃ q, w' = wx.drewN q) := fun wx at_ hc => left_any wx g base bs A c at_ 0 hc
  have DK : Hid (∀ wx B d (l : List Rec), l.length ≤ 9223372036854775807 → Row wx wx.heap.size B l.length 4 (recF l) → Calls Tryz.prog 76 #[.slice B l.length d] wx fun e w' => e = .returned (.int .i64 (chkE l)) ∧ Below wx.heap.size wx w') := fun wx B d l hl hrow => rcheck_any wx B l.length d l rfl hl hrow
  have BL : Hid (∀ at_, (blkO (bs.drop at_)).length ≤ 100000) := fun at_ => by
    have := blkO_len (x := bs.drop at_) (fun y hy => h8 y (List.mem_of_mem_drop hy))
    rw [List.length_drop] at this
    omega
  obtain ⟨LR, hLR⟩ : ∃ LR, LR = logR bs N M a0 := ⟨_, rfl⟩
  rw [← hLR]
  unfold logR at hLR
  obtain ⟨R, hR⟩ : ∃ R, R = logGo bs M a0 [] := ⟨_, rfl⟩
  have HR0 : Hid (logGo bs M a0 [] = R) := hR.symm
  rw [← hR] at hLR
  clear hR
  have H := Lib.hid h
  have HB := Lib.hid hr
  have HLE := Lib.hid hle
  clear h hr h8 ht hX hnil hcap hle
  obtain ⟨rl, re, ra⟩ := R
  simp only at hLR
  have F1 : Hid (re ≠ 0 → LR = ([], re)) := fun h => by rw [hLR, if_pos h]
  have F2 : Hid (re = 0 → (0 < bs.length - ra ∨ rl.length ≠ N) → LR = ([], 2)) := fun h h2 => by rw [hLR, if_neg (by simpa using h), if_pos h2]
  have F3 : Hid (re = 0 → ¬ (0 < bs.length - ra ∨ rl.length ≠ N) → chkE rl ≠ 0 → LR = ([], chkE rl)) := fun h h2 h3 => by rw [hLR, if_neg (by simpa using h), if_neg h2, if_pos h3]
  have F4 : Hid (re = 0 → ¬ (0 < bs.length - ra ∨ rl.length ≠ N) → chkE rl = 0 → LR = (rl, 0)) := fun h h2 h3 => by rw [hLR, if_neg (by simpa using h), if_neg h2, if_neg (by simpa using h3)]
  clear hLR
  obtain ⟨ll, le⟩ := LR
  unfold LogPost
  simp only
  go_enter Tryz.func63, Tryz.ntmps63
  go_wp2_with fail
  go_loopw [4, 12] (fun v i wr => ∃ (k at_ : Nat) (acc : List Rec), i = .int .i64 k ∧ k ≤ M ∧ acc.length ≤ k * 100000 ∧ Hid (logGo bs (M - k) at_ acc = (rl, re, ra)) ∧ Hid (wr.ownsRow w.heap.size 77 4 v acc.length (recL acc)) ∧ Hid (Cur wr g base bs A c at_ 0) ∧ Hid (Blk wr r 95 #[.pointer (some ⟨g, 0, none⟩), .slice X bs.length d, y2, y3, y4, y5, y6, y7, .int .i64 (N : Nat), .int .i64 (M : Nat)]) ∧ Hid (Kept (Apart g r w) w wr)) (fun _ i _ => M - (intOf i).toNat)
  case atStart => exact ⟨0, a0, [], rfl, by omega, by simp, HR0.out, World.ownsRow_nil _ _ _ _, H.out, HB.out, Kept.refl _ _⟩
  case round =>
    obtain ⟨k, at_, acc, rfl, hk, hacc, HG, HO, HC, HBr, HK⟩ := hrel
    have hat := HC.out.le
    obtain ⟨w0, rfl⟩ : ∃ w0 : World, w0 = wr := ⟨_, rfl⟩
    by_cases hlt : k < M
    · have gk : decide ((k : Int) < (M : Int)) = true := by simp; omega
      have gk' : decide (k < M) = true := by simp; omega
      have t2 : IntKind.i64.wrap ((k : Int) + 1) = ((k + 1 : Nat) : Int) := by rw [IntWalk.i64_in _ (by omega)]; omega
      obtain ⟨m, hm⟩ : ∃ m, M - k = m + 1 := ⟨M - k - 1, by omega⟩
      have hm1 : M - (k + 1) = m := by omega
      have hG := HG.out
      rw [hm, logGo] at hG
      have E1 := Lib.hid (DB.out w0 at_ HK.out HC.out HBr.out)
      have bl := BL.out at_
      have HOP : Hid (blkE (bs.drop at_) = blkE (bs.drop at_)) := rfl
      generalize blkE (bs.drop at_) = be at *
      generalize blkO (bs.drop at_) = bo at *
      generalize opA (bs.drop at_) = oa at *
      have HM1 := Lib.hid hm1
      clear hm hm1 HOP HG
      by_cases hb : be = 0
      · subst hb
        have HG2 : Hid (logGo bs m (at_ + oa) (acc ++ bo) = (rl, re, ra)) := by rw [if_neg (by simp)] at hG; exact hG
        clear hG
        go_wp2_with fail
        refine E1.out.mono ?_
        rintro e w1 ⟨v, rfl, ho1, hc1, hk1, hb1⟩
        obtain ⟨A1, c1, rfl⟩ := own_shape ho1
        obtain ⟨A2, c2, rfl⟩ := own_shape HO.out
        have HO1 := Lib.hid ho1
        have HC1 := Lib.hid (hc1 (by first | rfl | trivial))
        have HK1 := Lib.hid hk1
        have HB1 := Lib.hid hb1
        clear ho1 hc1 hk1 hb1 E1
        have HO2 : Hid (w1.ownsRow w.heap.size 77 4 (.slice A2 acc.length c2) acc.length (recL acc)) := own_kept HO.out (fun x hx => HK1.out.block x ⟨(World.ownsRow.lt HO.out x hx).2, fun e => own_blk HO.out HC.out.blk (by decide) (e ▸ hx), fun e => own_blk HO.out HBr.out (by decide) (e ▸ hx)⟩)
        have HKX := Lib.hid (kept_apart HK.out HK1.out)
        have zk := HK.out.size
        have zk1 := HK1.out.size
        clear HO HC HBr
        go_wp2_with (at_builtin; refine wpList_app rfl (.tmp 22) (.tmp 23) 26 rfl w.heap.size 77 j0 _ 4 48 Tryz.underlying26 hj0 hy0 hy1 hy2 rfl (by decide) (.slice A2 acc.length c2) acc.length (recL acc) (by rfl) HO2.out A1 bo.length c1 (recL bo) (by rfl) (src_own2 HO1.out) (one_recL bo) (by unfold maxLen; omega) (by omega) (by omega) ?_; intro v5 w5 hown5 hg5 hat5)
        have hc5 : Cur w5 g base bs A c (at_ + oa) 0 :=
          ⟨HC1.out.blk.grown hg5 (fun e => own_blk HO2.out HC1.out.blk (by decide) e.symm), own_grown HC1.out.own HO2.out (by decide) hg5, HC1.out.le, HC1.out.lo⟩
        have hb5 : Blk w5 r 95 #[.pointer (some ⟨g, 0, none⟩), .slice X bs.length d, y2, y3, y4, y5, y6, y7, .int .i64 (N : Nat), .int .i64 (M : Nat)] := HB1.out.grown hg5 (fun e => own_blk HO2.out HB1.out (by decide) e.symm)
        have hk5 : Kept (Apart g r w) w w5 := HKX.out.grown hg5 (fun b h => by have := h.1; omega) (fun b hb hh => by have := (World.ownsRow.lt HO2.out b hb).1; have := hh.1; omega)
        go_roundw
        case measure => go_light; simp [intOf]; omega
        case rel =>
          go_light
          refine ⟨k + 1, at_ + oa, acc ++ bo, by first | rfl | go_num, by omega, by rw [List.length_append]; omega, by rw [HM1.out]; exact HG2.out, ?_, hc5, hb5, hk5⟩
          rw [recL_app, List.length_append]
          exact hown5
      · have hR : ([], be, at_) = (rl, re, ra) := by rw [if_pos hb] at hG; exact hG
        simp only [Prod.mk.injEq] at hR
        obtain ⟨_, e2, _⟩ := hR
        have hF := F1.out (by rw [← e2]; exact hb)
        simp only [Prod.mk.injEq] at hF
        obtain ⟨rfl, e3⟩ := hF
        obtain rfl : le = be := e3.trans e2.symm
        have g1 : (le != 0) = true := by simpa using hb
        have HBe := Lib.hid hb
        clear hG e2 e3 F1 F2 F3 F4 hb
        go_wp2_with fail
        refine E1.out.mono ?_
        rintro e w1 ⟨v, rfl, ho1, hc1, hk1, hb1⟩
        obtain ⟨A1, c1, rfl⟩ := own_shape ho1
        have HK1 := Lib.hid (kept_apart HK.out hk1)
        have HB1 := Lib.hid hb1
        clear ho1 hc1 hk1 hb1 E1
        go_wp2_with fail
        go_ret2
        exact ⟨_, rfl, World.ownsRow_nil _ _ _ _, HK1.out, HB1.out⟩
    · obtain rfl : k = M := by omega
      have gk : decide ((k : Int) < (k : Int)) = false := by simp
      have gk' : decide (k < k) = false := by simp
      have hG := HG.out
      rw [Nat.sub_self, logGo] at hG
      simp only [Prod.mk.injEq] at hG
      obtain ⟨rfl, rfl, rfl⟩ := hG
      have x0 := HBr.out.cell 0
      have x8 := HBr.out.cell 8
      simp only [List.getElem?_toArray, List.getElem?_cons_zero, List.getElem?_cons_succ] at x0 x8
      have E1 := Lib.hid (DL.out w0 at_ HC.out)
      obtain ⟨A2, c2, rfl⟩ := own_shape HO.out
      have hrow := own_recs HO.out
      have E2 := Lib.hid (fun q => DK.out (w0.drewN q) A2 c2 acc (by omega) (hrow.drewN q))
      have F2 := Lib.hid (F2.out rfl)
      have F3 := Lib.hid (F3.out rfl)
      have F4 := Lib.hid (F4.out rfl)
      have hlf : bs.length - at_ ≤ 100000 := by have := HLE.out; omega
      generalize bs.length - at_ = lf at *
      clear HG F1 DL DK DB hrow hat
      by_cases h1 : 0 < lf
      · have hF := F2.out (.inl h1)
        simp only [Prod.mk.injEq] at hF
        obtain ⟨rfl, rfl⟩ := hF
        have g1 : decide ((0 : Int) < (lf : Int)) = true := by simp; omega
        have g2 : decide (0 < lf) = true := by simp; omega
        clear F2 F3 F4 E2
        go_wp2_with fail
        refine E1.out.mono ?_
        rintro e w1 ⟨rfl, q, rfl⟩
        go_wp2_with fail
        go_ret2
        exact ⟨_, rfl, World.ownsRow_nil _ _ _ _, HK.out.drewN q, HBr.out.drewN q⟩
      · obtain rfl : lf = 0 := by omega
        by_cases h2 : acc.length = N
        · have hno : ¬ ((0 : Nat) < 0 ∨ acc.length ≠ N) := by omega
          have F3 := Lib.hid (F3.out hno)
          have F4 := Lib.hid (F4.out hno)
          have HN := Lib.hid h2
          have g1 : ((acc.length : Int) != (N : Int)) = false := by simp; omega
          clear F2 h1 hno h2
          by_cases h3 : chkE acc = 0
          · have hF := F4.out h3
            simp only [Prod.mk.injEq] at hF
            obtain ⟨rfl, rfl⟩ := hF
            rw [h3] at E2
            clear F3 F4 h3
            go_wp2_with fail
            refine E1.out.mono ?_
            rintro e w1 ⟨rfl, q, rfl⟩
            have E3 := Lib.hid (E2.out q)
            clear E1 E2
            go_wp2_with fail
            refine E3.out.mono ?_
            rintro e w2 ⟨rfl, hb2⟩
            have HB2 := Lib.hid hb2
            clear hb2 E3
            go_wp2_with fail
            go_ret2
            exact ⟨_, rfl, own_kept HO.out (fun x hx => HB2.out.block x (World.ownsRow.lt HO.out x hx).2), (HK.out.drewN q).trans (Kept.of_below HB2.out (fun x hx => Nat.lt_of_lt_of_le hx.1 HK.out.size)), (HBr.out.drewN q).step HB2.out⟩
          · have hF := F3.out h3
            simp only [Prod.mk.injEq] at hF
            obtain ⟨rfl, rfl⟩ := hF
            have g2 : (chkE acc != 0) = true := by simpa using h3
            clear F3 F4 h3
            go_wp2_with fail
            refine E1.out.mono ?_
            rintro e w1 ⟨rfl, q, rfl⟩
            have E3 := Lib.hid (E2.out q)
            clear E1 E2
            go_wp2_with fail
            refine E3.out.mono ?_
            rintro e w2 ⟨rfl, hb2⟩
            have HB2 := Lib.hid hb2
            clear hb2 E3
            go_wp2_with fail
            go_ret2
            exact ⟨_, rfl, World.ownsRow_nil _ _ _ _, (HK.out.drewN q).trans (Kept.of_below HB2.out (fun x hx => Nat.lt_of_lt_of_le hx.1 HK.out.size)), (HBr.out.drewN q).step HB2.out⟩
        · have hF := F2.out (.inr h2)
          simp only [Prod.mk.injEq] at hF
          obtain ⟨rfl, rfl⟩ := hF
          have g1 : ((acc.length : Int) != (N : Int)) = true := by simp; omega
          clear F2 F3 F4 E2 h1 h2
          go_wp2_with fail
          refine E1.out.mono ?_
          rintro e w1 ⟨rfl, q, rfl⟩
          go_wp2_with fail
          go_ret2
          exact ⟨_, rfl, World.ownsRow_nil _ _ _ _, HK.out.drewN q, HBr.out.drewN q⟩
end Go.Proofs.YtmgjgkdbagbleaaGreatDoor.One
namespace Go.Proofs.YtmgjgkdbagbleaaGreatDoor.One
open Go.RowKit Go.Proofs.YtmgjgkdbagbleaaGreatDoor.Mem Go.Proofs.YtmgjgkdbagbleaaGreatDoor.Own Go.Proofs.YtmgjgkdbagbleaaGreatDoor.Canon Go.Proofs.YtmgjgkdbagbleaaGreatDoor.NumPut Go.Proofs.YtmgjgkdbagbleaaGreatDoor.Nums Go.Proofs.YtmgjgkdbagbleaaGreatDoor.Opts
open Go.Proofs.YtmgjgkdbagbleaaGreatDoor.Recs Go.Proofs.YtmgjgkdbagbleaaGreatDoor.Block
open Go.Proofs.YtmgjgkdbagbleaaGreatDoor.Crc (TabAt)
def UnPost (bs : List Nat) (w : World) (e : Ending) (w' : World) : Prop :=
  ∃ v, e = .returned (.tuple #[(unO bs).val, v, .int .i64 (unN bs : Nat), .int .i64 (unE bs)]) ∧ w'.ownsRow w.heap.size 77 4 v (unL bs).length (recL (unL bs)) ∧ Below w.heap.size w w'
theorem intV_le (m : Nat) {bs : List Nat} (h8 : ∀ x ∈ bs, x ≤ 255) (a : Nat) (e : Int) : intV m bs a e ≤ m := by
  unfold intV
  split
  · omega
  · exact (limP_spec m (bs.drop a) (fun x hx => h8 x (List.mem_of_mem_drop hx))).1
theorem un_cases (bs : List Nat) :
    (wholeE bs ≠ 0 → unO bs = opt0 ∧ unL bs = [] ∧ unN bs = 0 ∧ unE bs = wholeE bs) ∧
    (wholeE bs = 0 → headE (wholeO bs) ≠ 0 → unO bs = opt0 ∧ unL bs = [] ∧ unN bs = 0 ∧ unE bs = headE (wholeO bs)) ∧
    (wholeE bs = 0 → headE (wholeO bs) = 0 → (unR bs).2 ≠ 0 → unO bs = opt0 ∧ unL bs = [] ∧ unN bs = 0 ∧ unE bs = (unR bs).2) ∧
    (wholeE bs = 0 → headE (wholeO bs) = 0 → (unR bs).2 = 0 → unO bs = hO (wholeO bs) ∧ unL bs = (unR bs).1 ∧ unN bs = hM (wholeO bs) ∧ unE bs = 0) := by
  have hz : unE bs ≠ 0 → unO bs = opt0 ∧ unL bs = [] ∧ unN bs = 0 := fun h => ⟨if_neg h, if_neg h, if_neg h⟩
  refine ⟨fun h => ?_, fun h h2 => ?_, fun h h2 h3 => ?_, fun h h2 h3 => ?_⟩
  · have e : unE bs = wholeE bs := if_pos h
    have := hz (by rw [e]; exact h)
    exact ⟨this.1, this.2.1, this.2.2, e⟩
  · have e : unE bs = headE (wholeO bs) := by unfold unE; rw [if_neg (by simpa using h), if_pos h2]
    have := hz (by rw [e]; exact h2)
    exact ⟨this.1, this.2.1, this.2.2, e⟩
  · have e : unE bs = (unR bs).2 := by unfold unE; rw [if_neg (by simpa using h), if_neg (by simpa using h2)]
    have := hz (by rw [e]; exact h3)
    exact ⟨this.1, this.2.1, this.2.2, e⟩
  · have e : unE bs = 0 := by unfold unE; rw [if_neg (by simpa using h), if_neg (by simpa using h2), h3]
    exact ⟨if_pos e, if_pos e, if_pos e, e⟩
theorem whole_small {bs : List Nat} (h8 : ∀ x ∈ bs, x ≤ 255) : (wholeO bs).length ≤ bs.length ∧ ∀ x ∈ wholeO bs, x ≤ 255 := by
  unfold wholeO Crc.cutO
  split
  · split
    · exact ⟨by rw [List.length_drop, List.length_take]; omega, fun x hx => h8 x (List.mem_of_mem_take (List.mem_of_mem_drop hx))⟩
    · simp
  · simp
set_option maxHeartbeats 2000000 in
set_option maxRecDepth 100000 in
theorem un_any (w : World) (A : Option Addr) (n c : Nat) (bs : List Nat) (hn : bs.length = n) (hle : n ≤ 100000) (hcap : n ≤ c) (h8 : ∀ x ∈ bs, x ≤ 255) (ht : TabAt w) (ha : Row w w.heap.size A n 1 (numF .u8 bs)) :
    Calls Tryz.prog 19 #[.slice A n c] w (UnPost bs w) := by
  have D1 := Lib.hid (fun wx (hx : Below w.heap.size w wx) => whole_any wx A n c bs hn hle hcap h8 (ht.step hx) ((ha.below hx).mono hx.size))
  have HT := Lib.hid ht
  obtain ⟨f1, f2, f3, f4⟩ := un_cases bs
  have F1 := Lib.hid f1
  have F2 := Lib.hid f2
  have F3 := Lib.hid f3
  have F4 := Lib.hid f4
  clear f1 f2 f3 f4
  obtain ⟨hx1, hx2⟩ := whole_small h8
  have hxl : (wholeO bs).length ≤ 100000 := by omega
  unfold WholePost at D1
  unfold UnPost
  have eR : unR bs = logR (wholeO bs) (hN (wholeO bs)) (hM (wholeO bs)) (hA5 (wholeO bs)) := rfl
  rw [eR] at F3 F4
  clear eR
  generalize unO bs = oo at *
  generalize unL bs = ol at *
  generalize unN bs = on at *
  generalize unE bs = oe at *
  generalize wholeE bs = e0 at *
  generalize wholeO bs = x at *
  have HX8 := Lib.hid hx2
  have HXL := Lib.hid hxl
  clear hn hle hcap h8 ht ha hx1 hx2 hxl
  go_enter Tryz.func19, Tryz.ntmps19
  go_wp2_with fail
  have hbr : Blk (w.alloc (.cells #[.int .i64 0, .bool false, .int .i64 0, .int .i64 0, .int .i64 0, .int .i64 0] 25)) w.heap.size 25 #[.int .i64 0, .bool false, .int .i64 0, .int .i64 0, .int .i64 0, .int .i64 0] := Blk.made _ _ _
  have hb1 : Below w.heap.size w (w.alloc (.cells #[.int .i64 0, .bool false, .int .i64 0, .int .i64 0, .int .i64 0, .int .i64 0] 25)) := bel_alloc0 (Below.refl _ _)
  generalize w.alloc (.cells #[.int .i64 0, .bool false, .int .i64 0, .int .i64 0, .int .i64 0, .int .i64 0] 25) = w1 at *
  refine (D1.out _ hb1).mono ?_
  rintro e w2 ⟨B, d, rfl, hH, hb2⟩
  have BLX : Hid (Below w.heap.size w w2) := bel_step0 hb2 hb1
  have BRX := Lib.hid (hbr.step hb2)
  clear D1 hbr hb1
  by_cases h0 : e0 = 0
  · subst h0
    have F2 := Lib.hid (F2.out rfl)
    have F3 := Lib.hid (F3.out rfl)
    have F4 := Lib.hid (F4.out rfl)
    have E2 := Lib.hid (new_any w2 B x.length d x rfl HXL.out hH.none hH.row)
    have HH := Lib.hid hH
    clear F1 hb2 hH
    go_wp2_with fail
    refine E2.out.mono ?_
    rintro e w3 ⟨g, C, cc, rfl, hc3, hb3⟩
    have HC3 := Lib.hid hc3
    have HB3 := Lib.hid hb3
    have z3 := hb3.size
    have hg3 := hc3.lo
    have hgl := hc3.blk.lt
    clear hc3 hb3 E2
    go_wp2_with fail
    have hr4 : Blk (w3.alloc (.cells #[.pointer (some ⟨g, 0, none⟩), .slice B x.length d, .int .i64 0, .bool false, .int .i64 0, .int .i64 0, .int .i64 0, .int .i64 0, .int .i64 0, .int .i64 0] 95)) w3.heap.size 95 #[.pointer (some ⟨g, 0, none⟩), .slice B x.length d, .int .i64 0, .bool false, .int .i64 0, .int .i64 0, .int .i64 0, .int .i64 0, .int .i64 0, .int .i64 0] := Blk.made _ _ _
    have hb4 : Below w2.heap.size w2 (w3.alloc (.cells #[.pointer (some ⟨g, 0, none⟩), .slice B x.length d, .int .i64 0, .bool false, .int .i64 0, .int .i64 0, .int .i64 0, .int .i64 0, .int .i64 0, .int .i64 0] 95)) := bel_alloc z3 HB3.out
    have hc4 : Cur (w3.alloc (.cells #[.pointer (some ⟨g, 0, none⟩), .slice B x.length d, .int .i64 0, .bool false, .int .i64 0, .int .i64 0, .int .i64 0, .int .i64 0, .int .i64 0, .int .i64 0] 95)) g w2.heap.size x C cc 0 0 := HC3.out.step (bel_alloc0 (Below.refl _ _))
    have z4 : (w3.alloc (.cells #[.pointer (some ⟨g, 0, none⟩), .slice B x.length d, .int .i64 0, .bool false, .int .i64 0, .int .i64 0, .int .i64 0, .int .i64 0, .int .i64 0, .int .i64 0] 95)).heap.size = w3.heap.size + 1 := by simp
    generalize (w3.alloc (.cells #[.pointer (some ⟨g, 0, none⟩), .slice B x.length d, .int .i64 0, .bool false, .int .i64 0, .int .i64 0, .int .i64 0, .int .i64 0, .int .i64 0, .int .i64 0] 95)) = w4 at *
    have z4' : w3.heap.size < w4.heap.size := by omega
    have zb := BLX.out.size
    have zb2 := BRX.out.lt
    have E4 := Lib.hid (head_any w4 w3.heap.size g w2.heap.size x C cc (.slice B x.length d) HXL.out HX8.out hc4 hr4)
    have HB4 := Lib.hid hb4
    clear z4 hr4 hc4 hb4 HC3 HB3
    refine E4.out.mono ?_
    rintro e w5 ⟨rfl, hc5, hr5, hk5⟩
    have HC5 := Lib.hid hc5
    have HR5 := Lib.hid hr5
    have HK5 := Lib.hid hk5
    have zk5 := hk5.size
    have BRX5 : Hid (Blk w5 w.heap.size 25 #[.int .i64 0, .bool false, .int .i64 0, .int .i64 0, .int .i64 0, .int .i64 0]) := (hk5.block _ ⟨by omega, by omega, by omega⟩).trans (BRX.out.step HB4.out)
    have BLX5 : Hid (Below w.heap.size w w5) := (BLX.out.trans (HB4.out.mono BLX.out.size)).trans (hk5.below (fun k hk => ⟨by omega, by omega, by omega⟩))
    clear hc5 hr5 hk5 E4 BRX
    by_cases h1 : headE x = 0
    · have F3 := Lib.hid (F3.out (by trivial) h1)
      have F4 := Lib.hid (F4.out (by trivial) h1)
      have hE5z : hE5 x = 0 := by
        refine Decidable.byContradiction fun hn => ?_
        unfold headE at h1
        rw [if_pos hn] at h1
        exact hn h1
      have hc5 := HC5.out
      rw [hE5z] at hc5
      have hmn : hM x ≤ 20000 := Nat.le_trans (intV_le _ HX8.out _ _) (intV_le _ HX8.out _ _)
      have hto : TabAt w2 := HT.out.step BLX.out
      have hrow : Row w5 w2.heap.size B x.length 1 (numF .u8 x) := row_apart (HH.out.row.below HB4.out) HK5.out HB4.out.size hg3 z3
      have E6 := Lib.hid (log_any w5 w3.heap.size g w2.heap.size x C cc (hA5 x) B d (hN x) (hM x) _ _ _ _ _ _ HXL.out hmn HX8.out (tab_apart (hto.step HB4.out) HK5.out hto.lt hg3 z3) HH.out.cap (fun e => ⟨(HH.out.none e).1, (HH.out.none e).2⟩) hrow z3 hto.lt (Nat.le_trans HB4.out.size HK5.out.size) hc5 HR5.out)
      unfold LogPost at E6
      rw [h1]
      clear F2 hE5z hc5 hmn hto hrow HH HC5 HR5 HK5 h1
      have HOV : Hid ((hO x).val = .agg #[.int .i64 (hO x).block, .bool (hO x).plain, .int .i64 0, .int .i64 0, .int .i64 0, .int .i64 0]) := rfl
      generalize logR x (hN x) (hM x) (hA5 x) = LR at *
      generalize hO x = ho at *
      generalize hM x = hm at *
      generalize hN x = hn at *
      obtain ⟨ll, le⟩ := LR
      simp only at E6 F3 F4
      go_wp2_with fail
      refine E6.out.mono ?_
      rintro e w6 ⟨v, rfl, ho6, hk6, hr6⟩
      obtain ⟨A6, c6, rfl⟩ := own_shape ho6
      have HO6 := Lib.hid (own_mono ho6 BLX5.out.size)
      have HR6 := Lib.hid hr6
      have BRX : Hid (Blk w6 w.heap.size 25 #[.int .i64 0, .bool false, .int .i64 0, .int .i64 0, .int .i64 0, .int .i64 0]) := (hk6.block _ ⟨by omega, by omega, by omega⟩).trans BRX5.out
      have BLX : Hid (Below w.heap.size w w6) := BLX5.out.trans (hk6.below (fun k hk => ⟨by omega, by omega, by omega⟩))
      clear ho6 hr6 hk6 E6 BRX5 BLX5
      by_cases h2 : le = 0
      · obtain ⟨rfl, rfl, rfl, rfl⟩ := F4.out h2
        subst h2
        have j0 := BRX.out.cell 0
        have j1 := BRX.out.cell 1
        have j2 := BRX.out.cell 2
        have j3 := BRX.out.cell 3
        have j4 := BRX.out.cell 4
        have j5 := BRX.out.cell 5
        have k0 := BRX.out.frozen 0
        have k1 := BRX.out.frozen 1
        have k2 := BRX.out.frozen 2
        have k3 := BRX.out.frozen 3
        have k4 := BRX.out.frozen 4
        have k5 := BRX.out.frozen 5
        have m2 := HR6.out.cell 2
        have m3 := HR6.out.cell 3
        have m4 := HR6.out.cell 4
        have m5 := HR6.out.cell 5
        have m6 := HR6.out.cell 6
        have m7 := HR6.out.cell 7
        have m9 := HR6.out.cell 9
        simp only [List.getElem?_toArray, List.getElem?_cons_zero, List.getElem?_cons_succ] at j0 j1 j2 j3 j4 j5 m2 m3 m4 m5 m6 m7 m9
        clear F3 F4
        go_wp2_with fail
        go_region
        have B6 := ((((((BRX.out.set 0 (.int .i64 oo.block)).set 1 (.bool oo.plain)).set 2 (.int .i64 0)).set 3 (.int .i64 0)).set 4 (.int .i64 0)).set 5 (.int .i64 0))
        have L6 := bel_set (p := ⟨w.heap.size, 5, none⟩) (u := .int .i64 0) (Nat.le_refl _) (bel_set (p := ⟨w.heap.size, 4, none⟩) (u := .int .i64 0) (Nat.le_refl _) (bel_set (p := ⟨w.heap.size, 3, none⟩) (u := .int .i64 0) (Nat.le_refl _) (bel_set (p := ⟨w.heap.size, 2, none⟩) (u := .int .i64 0) (Nat.le_refl _) (bel_set (p := ⟨w.heap.size, 1, none⟩) (u := .bool oo.plain) (Nat.le_refl _) (bel_set (p := ⟨w.heap.size, 0, none⟩) (u := .int .i64 oo.block) (Nat.le_refl _) BLX.out)))))
        have hnb : (Value.slice A6 ol.length c6).ownBlock ≠ some w.heap.size := own_blk HO6.out BRX.out (by decide)
        have O6 := set_own (p := ⟨w.heap.size, 5, none⟩) (set_own (p := ⟨w.heap.size, 4, none⟩) (set_own (p := ⟨w.heap.size, 3, none⟩) (set_own (p := ⟨w.heap.size, 2, none⟩) (set_own (p := ⟨w.heap.size, 1, none⟩) (set_own (p := ⟨w.heap.size, 0, none⟩) HO6.out hnb (.int .i64 oo.block)) hnb (.bool oo.plain)) hnb (.int .i64 0)) hnb (.int .i64 0)) hnb (.int .i64 0)) hnb (.int .i64 0)
        generalize ((((((w6.setCell ⟨w.heap.size, 0, none⟩ (.int .i64 oo.block)).setCell ⟨w.heap.size, 1, none⟩ (.bool oo.plain)).setCell ⟨w.heap.size, 2, none⟩ (.int .i64 0)).setCell ⟨w.heap.size, 3, none⟩ (.int .i64 0)).setCell ⟨w.heap.size, 4, none⟩ (.int .i64 0)).setCell ⟨w.heap.size, 5, none⟩ (.int .i64 0)) = wf at *
        go_wp2_with fail
        have B7 := B6.drew
        have z0 := B7.cell 0
        have z1 := B7.cell 1
        have z2 := B7.cell 2
        have z3 := B7.cell 3
        have z4 := B7.cell 4
        have z5 := B7.cell 5
        simp only [List.setIfInBounds_toArray, List.set_cons_zero, List.set_cons_succ, List.getElem?_toArray, List.getElem?_cons_zero, List.getElem?_cons_succ] at z0 z1 z2 z3 z4 z5
        refine bodyPost_ret (v := .tuple #[oo.val, .slice A6 ol.length c6, .int .i64 on, .int .i64 0]) ?_ rfl ⟨_, rfl, own_kept O6 (fun x hx => rfl), L6.drew⟩
        rw [HOV.out]
        simp [results, Tryz.results19, go_sem, z0, z1, z2, z3, z4, z5]
      · obtain ⟨rfl, rfl, rfl, rfl⟩ := F3.out h2
        have g1 : (oe != 0) = true := by simpa using h2
        clear F3 F4 h2
        obtain ⟨wX, rfl⟩ : ∃ wX : World, wX = w6 := ⟨_, rfl⟩
        have B6 := ((((((BRX.out.set 0 (.int .i64 0)).set 1 (.bool false)).set 2 (.int .i64 0)).set 3 (.int .i64 0)).set 4 (.int .i64 0)).set 5 (.int .i64 0))
        have L6 := bel_set (p := ⟨w.heap.size, 5, none⟩) (u := .int .i64 0) (Nat.le_refl _) (bel_set (p := ⟨w.heap.size, 4, none⟩) (u := .int .i64 0) (Nat.le_refl _) (bel_set (p := ⟨w.heap.size, 3, none⟩) (u := .int .i64 0) (Nat.le_refl _) (bel_set (p := ⟨w.heap.size, 2, none⟩) (u := .int .i64 0) (Nat.le_refl _) (bel_set (p := ⟨w.heap.size, 1, none⟩) (u := .bool false) (Nat.le_refl _) (bel_set (p := ⟨w.heap.size, 0, none⟩) (u := .int .i64 0) (Nat.le_refl _) BLX.out)))))
        have j0 := BRX.out.cell 0
        have j1 := BRX.out.cell 1
        have j2 := BRX.out.cell 2
        have j3 := BRX.out.cell 3
        have j4 := BRX.out.cell 4
        have j5 := BRX.out.cell 5
        have k0 := BRX.out.frozen 0
        have k1 := BRX.out.frozen 1
        have k2 := BRX.out.frozen 2
        have k3 := BRX.out.frozen 3
        have k4 := BRX.out.frozen 4
        have k5 := BRX.out.frozen 5
        simp only [List.getElem?_toArray, List.getElem?_cons_zero, List.getElem?_cons_succ] at j0 j1 j2 j3 j4 j5
        go_wp2_with fail
        generalize ((((((wX.setCell ⟨w.heap.size, 0, none⟩ (.int .i64 0)).setCell ⟨w.heap.size, 1, none⟩ (.bool false)).setCell ⟨w.heap.size, 2, none⟩ (.int .i64 0)).setCell ⟨w.heap.size, 3, none⟩ (.int .i64 0)).setCell ⟨w.heap.size, 4, none⟩ (.int .i64 0)).setCell ⟨w.heap.size, 5, none⟩ (.int .i64 0)) = w6 at *
        have z0 := B6.cell 0
        have z1 := B6.cell 1
        have z2 := B6.cell 2
        have z3 := B6.cell 3
        have z4 := B6.cell 4
        have z5 := B6.cell 5
        simp only [List.setIfInBounds_toArray, List.set_cons_zero, List.set_cons_succ, List.getElem?_toArray, List.getElem?_cons_zero, List.getElem?_cons_succ] at z0 z1 z2 z3 z4 z5
        refine bodyPost_ret (v := .tuple #[opt0.val, .slice none 0 0, .int .i64 0, .int .i64 _]) ?_ rfl ⟨_, rfl, World.ownsRow_nil _ _ _ _, L6⟩
        simp [results, Tryz.results19, go_sem, z0, z1, z2, z3, z4, z5, Opt.val, opt0]
    · obtain ⟨rfl, rfl, rfl, rfl⟩ := F2.out (by trivial) h1
      have g1 : (headE x != 0) = true := by simpa using h1
      have BRX := Lib.hid BRX5.out
      have BLX := Lib.hid BLX5.out
      clear F2 F3 F4 BRX5 BLX5
      obtain ⟨wX, rfl⟩ : ∃ wX : World, wX = w5 := ⟨_, rfl⟩
      have B6 := ((((((BRX.out.set 0 (.int .i64 0)).set 1 (.bool false)).set 2 (.int .i64 0)).set 3 (.int .i64 0)).set 4 (.int .i64 0)).set 5 (.int .i64 0))
      have L6 := bel_set (p := ⟨w.heap.size, 5, none⟩) (u := .int .i64 0) (Nat.le_refl _) (bel_set (p := ⟨w.heap.size, 4, none⟩) (u := .int .i64 0) (Nat.le_refl _) (bel_set (p := ⟨w.heap.size, 3, none⟩) (u := .int .i64 0) (Nat.le_refl _) (bel_set (p := ⟨w.heap.size, 2, none⟩) (u := .int .i64 0) (Nat.le_refl _) (bel_set (p := ⟨w.heap.size, 1, none⟩) (u := .bool false) (Nat.le_refl _) (bel_set (p := ⟨w.heap.size, 0, none⟩) (u := .int .i64 0) (Nat.le_refl _) BLX.out)))))
      have j0 := BRX.out.cell 0
      have j1 := BRX.out.cell 1
      have j2 := BRX.out.cell 2
      have j3 := BRX.out.cell 3
      have j4 := BRX.out.cell 4
      have j5 := BRX.out.cell 5
      have k0 := BRX.out.frozen 0
      have k1 := BRX.out.frozen 1
      have k2 := BRX.out.frozen 2
      have k3 := BRX.out.frozen 3
      have k4 := BRX.out.frozen 4
      have k5 := BRX.out.frozen 5
      simp only [List.getElem?_toArray, List.getElem?_cons_zero, List.getElem?_cons_succ] at j0 j1 j2 j3 j4 j5
      go_wp2_with fail
      generalize ((((((wX.setCell ⟨w.heap.size, 0, none⟩ (.int .i64 0)).setCell ⟨w.heap.size, 1, none⟩ (.bool false)).setCell ⟨w.heap.size, 2, none⟩ (.int .i64 0)).setCell ⟨w.heap.size, 3, none⟩ (.int .i64 0)).setCell ⟨w.heap.size, 4, none⟩ (.int .i64 0)).setCell ⟨w.heap.size, 5, none⟩ (.int .i64 0)) = w6 at *
      have z0 := B6.cell 0
      have z1 := B6.cell 1
      have z2 := B6.cell 2
      have z3 := B6.cell 3
      have z4 := B6.cell 4
      have z5 := B6.cell 5
      simp only [List.setIfInBounds_toArray, List.set_cons_zero, List.set_cons_succ, List.getElem?_toArray, List.getElem?_cons_zero, List.getElem?_cons_succ] at z0 z1 z2 z3 z4 z5
      refine bodyPost_ret (v := .tuple #[opt0.val, .slice none 0 0, .int .i64 0, .int .i64 _]) ?_ rfl ⟨_, rfl, World.ownsRow_nil _ _ _ _, L6⟩
      simp [results, Tryz.results19, go_sem, z0, z1, z2, z3, z4, z5, Opt.val, opt0]
  · obtain ⟨rfl, rfl, rfl, rfl⟩ := F1.out h0
    have g1 : (oe != 0) = true := by simpa using h0
    clear F1 F2 F3 F4 h0 hb2
    obtain ⟨wX, rfl⟩ : ∃ wX : World, wX = w2 := ⟨_, rfl⟩
    have B6 := ((((((BRX.out.set 0 (.int .i64 0)).set 1 (.bool false)).set 2 (.int .i64 0)).set 3 (.int .i64 0)).set 4 (.int .i64 0)).set 5 (.int .i64 0))
    have L6 := bel_set (p := ⟨w.heap.size, 5, none⟩) (u := .int .i64 0) (Nat.le_refl _) (bel_set (p := ⟨w.heap.size, 4, none⟩) (u := .int .i64 0) (Nat.le_refl _) (bel_set (p := ⟨w.heap.size, 3, none⟩) (u := .int .i64 0) (Nat.le_refl _) (bel_set (p := ⟨w.heap.size, 2, none⟩) (u := .int .i64 0) (Nat.le_refl _) (bel_set (p := ⟨w.heap.size, 1, none⟩) (u := .bool false) (Nat.le_refl _) (bel_set (p := ⟨w.heap.size, 0, none⟩) (u := .int .i64 0) (Nat.le_refl _) BLX.out)))))
    have j0 := BRX.out.cell 0
    have j1 := BRX.out.cell 1
    have j2 := BRX.out.cell 2
    have j3 := BRX.out.cell 3
    have j4 := BRX.out.cell 4
    have j5 := BRX.out.cell 5
    have k0 := BRX.out.frozen 0
    have k1 := BRX.out.frozen 1
    have k2 := BRX.out.frozen 2
    have k3 := BRX.out.frozen 3
    have k4 := BRX.out.frozen 4
    have k5 := BRX.out.frozen 5
    simp only [List.getElem?_toArray, List.getElem?_cons_zero, List.getElem?_cons_succ] at j0 j1 j2 j3 j4 j5
    go_wp2_with fail
    generalize ((((((wX.setCell ⟨w.heap.size, 0, none⟩ (.int .i64 0)).setCell ⟨w.heap.size, 1, none⟩ (.bool false)).setCell ⟨w.heap.size, 2, none⟩ (.int .i64 0)).setCell ⟨w.heap.size, 3, none⟩ (.int .i64 0)).setCell ⟨w.heap.size, 4, none⟩ (.int .i64 0)).setCell ⟨w.heap.size, 5, none⟩ (.int .i64 0)) = w6 at *
    have z0 := B6.cell 0
    have z1 := B6.cell 1
    have z2 := B6.cell 2
    have z3 := B6.cell 3
    have z4 := B6.cell 4
    have z5 := B6.cell 5
    simp only [List.setIfInBounds_toArray, List.set_cons_zero, List.set_cons_succ, List.getElem?_toArray, List.getElem?_cons_zero, List.getElem?_cons_succ] at z0 z1 z2 z3 z4 z5
    refine bodyPost_ret (v := .tuple #[opt0.val, .slice none 0 0, .int .i64 0, .int .i64 _]) ?_ rfl ⟨_, rfl, World.ownsRow_nil _ _ _ _, L6⟩
    simp [results, Tryz.results19, go_sem, z0, z1, z2, z3, z4, z5, Opt.val, opt0]
end Go.Proofs.YtmgjgkdbagbleaaGreatDoor.One
namespace Go.Proofs.YtmgjgkdbagbleaaGreatDoor.One
open Go.RowKit Go.Proofs.YtmgjgkdbagbleaaGreatDoor.Mem Go.Proofs.YtmgjgkdbagbleaaGreatDoor.Own Go.Proofs.YtmgjgkdbagbleaaGreatDoor.Canon Go.Proofs.YtmgjgkdbagbleaaGreatDoor.NumPut Go.Proofs.YtmgjgkdbagbleaaGreatDoor.Nums Go.Proofs.YtmgjgkdbagbleaaGreatDoor.Opts
open Go.Proofs.YtmgjgkdbagbleaaGreatDoor.Recs Go.Proofs.YtmgjgkdbagbleaaGreatDoor.Block
open Go.Proofs.YtmgjgkdbagbleaaGreatDoor.Crc (TabAt tailN sumN)
theorem frames_flat (pl : Bool) : ∀ (cs : List Nat) (l : List Rec), (∀ r ∈ l, RecOk r) → (bytesB true l).length ≤ 32768 → ((framesP pl cs l).flatten).length ≤ (bytesB true l).length + 11 * cs.length
  | [], l, _, _ => by simp [framesP]
  | c :: t, l, h, hb => by
    have hs := bytesB_split true l c
    have h1 := (frame_size pl (bytesB_u8 true (l := l.take c) (fun r hr => h r (List.mem_of_mem_take hr))) (by omega)).2
    have h2 := frames_flat pl t (l.drop c) (fun r hr => h r (List.mem_of_mem_drop hr)) (by omega)
    rw [framesP, List.flatten_cons, List.length_append, List.length_cons]
    omega
theorem packB_len {o : Opt} {l : List Rec} (ho : optE o = 0) (hn : l.length ≤ 1000) (hok : ∀ r ∈ l, RecOk r) (hb : (bytesB true l).length ≤ 16000) : (packB o l).length ≤ 60000 ∧ 9 ≤ (packB o l).length := by
  obtain ⟨b1, b2⟩ := optE_ok ho
  have hg := counts_len o l
  have hf := frames_flat o.plain (countsO o l) l hok (by omega)
  have n1 := numB_len64 (x := o.block.toNat) (by omega)
  have n2 := numB_len64 (x := l.length) (by omega)
  have n3 := numB_len64 (x := (countsO o l).length) (by omega)
  have ht : (tailN (sumN (bodyO o l))).length = 4 := rfl
  unfold packB
  rw [List.length_append, ht]
  unfold bodyO headO markB
  simp only [List.length_append, List.length_cons, List.length_nil]
  omega
theorem foldl_pos : ∀ (l : List Int) (a : Int), (∀ x ∈ l, 0 ≤ x) → a ≤ l.foldl (· + ·) a
  | [], a, _ => by simp
  | x :: l, a, h => by
    have := foldl_pos l (a + x) (fun y hy => h y (by simp [hy]))
    have := h x (by simp)
    rw [List.foldl_cons]
    omega
theorem weigh_le_weight {l : List Rec} {r : Rec} (hr : r ∈ l) : weigh r ≤ weight l := by
  obtain ⟨a, b, rfl⟩ := List.append_of_mem hr
  have hp : ∀ x ∈ (List.map weigh b), 0 ≤ x := fun x hx => by
    obtain ⟨y, _, rfl⟩ := List.mem_map.1 hx
    unfold weigh
    omega
  have hq : ∀ x ∈ (List.map weigh a), 0 ≤ x := fun x hx => by
    obtain ⟨y, _, rfl⟩ := List.mem_map.1 hx
    unfold weigh
    omega
  have h1 := foldl_pos _ 0 hq
  have h2 := foldl_pos _ ((List.map weigh a).foldl (· + ·) 0 + weigh r) hp
  unfold weight
  rw [List.map_append, List.map_cons, List.foldl_append, List.foldl_cons]
  omega
theorem small_chk {l : List Rec} (hn : (l.length : Int) ≤ 60) (hw : weight l ≤ 4000) : chkE l = 0 := by
  have hany : ¬ l.any longB = true := by
    intro h
    obtain ⟨r, hr, hl⟩ := List.any_eq_true.1 h
    have := weigh_le_weight hr
    unfold weigh at this
    unfold longB at hl
    simp at hl
    omega
  unfold chkE
  rw [if_neg (by omega), if_neg hany, if_neg (by omega)]
end Go.Proofs.YtmgjgkdbagbleaaGreatDoor.One
namespace Go.Proofs.YtmgjgkdbagbleaaGreatDoor.One
open Go.RowKit Go.Proofs.YtmgjgkdbagbleaaGreatDoor.Mem Go.Proofs.YtmgjgkdbagbleaaGreatDoor.Own Go.Proofs.YtmgjgkdbagbleaaGreatDoor.Canon Go.Proofs.YtmgjgkdbagbleaaGreatDoor.NumPut Go.Proofs.YtmgjgkdbagbleaaGreatDoor.Nums Go.Proofs.YtmgjgkdbagbleaaGreatDoor.Opts
open Go.Proofs.YtmgjgkdbagbleaaGreatDoor.Recs Go.Proofs.YtmgjgkdbagbleaaGreatDoor.Block
open Go.Proofs.YtmgjgkdbagbleaaGreatDoor.Crc
theorem bodyO_u8 {o : Opt} {l : List Rec} (hok : ∀ r ∈ l, RecOk r) : ∀ x ∈ bodyO o l, x ≤ 255 := fun x hx => packB_u8 (o := o) hok x (by unfold packB; exact List.mem_append_left _ hx)
set_option maxHeartbeats 4000000 in
set_option maxRecDepth 100000 in
theorem law_oturned (w : World) (o : Opt) (A : Option Addr) (n c m pt : Nat) (l : List Rec) (hm : m < 65536) (hpt : pt < 4294967296) (hn : l.length = n) (hN : n ≤ 9223372036854775807) (hc : n ≤ c) (hok : ∀ r ∈ l, RecOk r) (ht : TabAt w) (ha : Row w w.heap.size A n 4 (recF l)) :
    Calls Tryz.prog 5 #[o.val, .slice A n c, .int .u16 m, .int .u32 pt] w fun e w' => e = .returned (.bool true) ∧ Below w.heap.size w w' := by
  have D0 := Lib.hid (fun wx (hx : Below w.heap.size w wx) => alive21 wx (ht.step hx))
  have D2 := Lib.hid (fun wx (hx : Below w.heap.size w wx) => ref_great wx A n c l 30 1500 (by omega) hn hN ((ha.below hx).mono hx.size))
  have D3 := Lib.hid (fun wx (hx : Below w.heap.size w wx) (hcd : chkE l = 0 → n ≤ 1000 ∧ (bytesB true l).length ≤ 16000) => packs_any wx o A n c l hn hN hc hok hcd (ht.step hx) ((ha.below hx).mono hx.size))
  have DT : Hid (TabAt w) := ht
  have HSM : Hid ((n : Int) ≤ 30 ∧ weight l ≤ 1500 → (packE o l = 0 → optE o = 0) ∧ n ≤ 1000 ∧ (bytesB true l).length ≤ 16000) := fun h => by
    have hk : chkE l = 0 := small_chk (by omega) (by omega)
    refine ⟨fun h => ?_, by omega, bytes_great hn hok hk (by omega) (by omega)⟩
    refine Decidable.byContradiction fun hno => ?_
    unfold packE at h
    rw [if_pos hno] at h
    exact hno h
  have HPL : Hid (optE o = 0 → n ≤ 1000 ∧ (bytesB true l).length ≤ 16000 → (packB o l).length ≤ 60000 ∧ 9 ≤ (packB o l).length) := fun ho h => packB_len ho (by omega) hok h.2
  have HRB : Hid (packE o l = 0 → packR o l = packB o l) := fun h => if_pos h
  have HF8 := Lib.hid (packB_u8 (o := o) hok)
  have HT : Hid (∀ first k X, k ≤ 32 → Tn (packB o l) 5 first k X true → unE X = 5 ∧ unL X = [] ∧ unN X = 0) := fun first k X hk h => un_turned (bodyO_u8 hok) hk h
  have D4 : Hid (∀ wx A2 c2 L X, L ≤ 100000 → Below w.heap.size w wx → X.length = L → (∀ x ∈ X, x ≤ 255) → wx.ownsRow w.heap.size 5 1 (.slice A2 L c2) L (numL .u8 X) → Calls Tryz.prog 19 #[.slice A2 L c2] wx (UnPost X wx)) := fun wx A2 c2 L X hL hb hl h8x ho => by
    subst hl
    have hr := Part.Ok.row (part_own (ls := X) ho rfl)
    exact un_any wx A2 _ c2 X rfl hL (own_wf ho).2 h8x (DT.out.step hb) hr
  unfold PacksPost at D3
  unfold GreatPost at D2
  unfold UnPost at D4
  generalize packE o l = E at *
  generalize packR o l = R at *
  generalize packB o l = F at *
  generalize optE o = oE at *
  generalize chkE l = ck at *
  generalize (bytesB true l).length = B at *
  obtain ⟨S, pl, bu, da, pa, ch⟩ := o
  unfold Opt.val at D3 D4 ⊢
  simp only at D3 D4 ⊢
  clear hn hok ht ha
  go_enter Tryz.func5, Tryz.ntmps5
  go_wp2_with fail
  have hba : Blk (w.alloc (.cells #[.int .i64 S, .bool pl, .int .i64 bu, .int .i64 da, .int .i64 pa, .int .i64 ch] 25)) w.heap.size 25 #[.int .i64 S, .bool pl, .int .i64 bu, .int .i64 da, .int .i64 pa, .int .i64 ch] := Blk.made _ _ _
  have hbw : Below w.heap.size w (w.alloc (.cells #[.int .i64 S, .bool pl, .int .i64 bu, .int .i64 da, .int .i64 pa, .int .i64 ch] 25)) := bel_alloc0 (Below.refl _ _)
  generalize w.alloc (.cells #[.int .i64 S, .bool pl, .int .i64 bu, .int .i64 da, .int .i64 pa, .int .i64 ch] 25) = wa at *
  have HWA : Hid (∀ wx, Below wa.heap.size wa wx → Below w.heap.size w wx) := fun wx h => hbw.trans (h.mono hbw.size)
  have HBA := Lib.hid hba
  have HBW := Lib.hid hbw
  clear hba hbw
  refine (D0.out wa HBW.out).mono ?_
  rintro e w1 ⟨rfl, hb1⟩
  have B1 : Hid (Below wa.heap.size wa w1) := hb1
  have E2 := Lib.hid (D2.out w1 (HWA.out _ B1.out))
  clear hb1 D0 D2
  by_cases hp0 : pt = 0
  · subst hp0
    go_wp2_with fail
    refine E2.out.mono ?_
    rintro e w5 ⟨gr, rfl, hgr, hb5⟩
    have B5 : Hid (Below wa.heap.size wa w5) := bel_step0 hb5 B1.out
    clear hb5 E2 B1 hgr
    cases gr with
    | true =>
      go_wp2_with fail
      go_ret
      exact ⟨rfl, HWA.out _ B5.out⟩
    | false =>
      go_wp2_with fail
      go_ret
      exact ⟨rfl, HWA.out _ B5.out⟩
  have gp0 : ((pt : Int) == 0) = false := by rw [beq_eq_false_iff_ne]; omega
  have gp0' : decide (pt = 0) = false := by simpa using hp0
  clear hp0
  go_wp2_with fail
  refine E2.out.mono ?_
  rintro e w5 ⟨gr, rfl, hgr, hb5⟩
  have B5 : Hid (Below wa.heap.size wa w5) := bel_step0 hb5 B1.out
  clear hb5 E2 B1
  cases gr with
  | true =>
    clear hgr
    go_wp2_with fail
    go_ret
    exact ⟨rfl, HWA.out _ B5.out⟩
  | false =>
    obtain ⟨s1, s2⟩ := HSM.out (hgr rfl)
    have E5 := Lib.hid (D3.out w5 (HWA.out _ B5.out) (fun _ => s2))
    have q5 := HBA.out.step B5.out
    have k0 := q5.cell 0; have k1 := q5.cell 1; have k2 := q5.cell 2; have k3 := q5.cell 3; have k4 := q5.cell 4; have k5 := q5.cell 5; simp only [List.getElem?_toArray, List.getElem?_cons_zero, List.getElem?_cons_succ] at k0 k1 k2 k3 k4 k5
    have zs5 := q5.lt
    clear hgr D3 HSM q5
    by_cases ho : E = 0
    · have ho2 : oE = 0 := s1 ho
      subst ho
      obtain rfl := HRB.out rfl
      have hpl := HPL.out ho2 s2
      clear s1 s2 HRB HPL ho2
      obtain ⟨L, hL⟩ : ∃ L, L = R.length := ⟨_, rfl⟩
      rw [← hL] at E5 hpl
      have HL := Lib.hid hL
      obtain ⟨d8, hd8⟩ : ∃ d8, d8 = 8 * L - 40 := ⟨_, rfl⟩
      obtain ⟨q, hq⟩ : ∃ q, q = m % d8 := ⟨_, rfl⟩
      obtain ⟨first, hf⟩ : ∃ first, first = 40 + q := ⟨_, rfl⟩
      have hql : q < d8 := by rw [hq]; exact Nat.mod_lt _ (by omega)
      have s2 : IntKind.i64.wrap (m : Int) = (m : Int) := IntWalk.i64_in _ (by omega)
      obtain ⟨L8, hL8⟩ : ∃ L8, L8 = 8 * L := ⟨_, rfl⟩
      have s6 : IntKind.i64.wrap (8 * (L : Int)) = (L8 : Int) := by rw [IntWalk.i64_in _ (by omega)]; omega
      have s4 : IntKind.i64.wrap ((L8 : Int) - 40) = (d8 : Int) := by rw [IntWalk.i64_in _ (by omega)]; omega
      have hmd : (m : Int) % (d8 : Int) = (q : Int) := by rw [hq]; omega
      have hmd' : (m : Int).tmod (d8 : Int) = (q : Int) := by rw [Int.tmod_eq_emod_of_nonneg (by omega)]; exact hmd
      have z1 : ¬ d8 = 0 := by omega
      have z2 : ((d8 : Int) == 0) = false := by rw [beq_eq_false_iff_ne]; omega
      have s5 : IntKind.i64.wrap (40 + (q : Int)) = (first : Int) := by rw [IntWalk.i64_in _ (by omega)]; omega
      have hfl : 40 ≤ first ∧ first < 8 * L := by omega
      rw [← hL8] at hfl
      have HL8 := Lib.hid hL8
      have hLb : L ≤ 60000 := hpl.1
      have hL8c : L8 ≤ 480000 := by omega
      have hfirst : first < 480000 := by omega
      have hL9 : 9 ≤ L := hpl.2
      clear hL hd8 hq hf hmd hL8 hpl hm
      go_wp2_with fail
      refine E5.out.mono ?_
      rintro e w6 ⟨v6, rfl, ho6, hb6⟩
      have HO3 := Lib.hid (own_mono ho6 (HWA.out _ B5.out).size)
      obtain ⟨g, cg, hAg, hg0, _⟩ := HO3.out.form (by omega)
      subst hAg
      have HB3 : Hid (Below w.heap.size w w6) := HWA.out _ (bel_step0 hb6 B5.out)
      clear ho6 hb6 E5 B5 k0 k1 k2 k3 k4 k5 HWA HBA HBW
      go_wp2_with fail
      go_loopw [3, 12, 13] (fun pv tv kv wr => ∃ (k p2 : Nat) (t : Bool) (X : List Nat), k ≤ 32 ∧ p2 < 4294967296 ∧ pv = .int .u32 p2 ∧ tv = .bool t ∧ kv = .int .i64 k ∧ Hid (Tn R 5 first k X t) ∧ Hid (wr.ownsRow w.heap.size 5 1 (.slice (some ⟨g, 0, none⟩) L cg) L (numL .u8 X)) ∧ Hid (Below w.heap.size w wr)) (fun _ _ kv _ => 32 - (intOf kv).toNat)
      case atStart => exact ⟨0, pt, false, R, by omega, hpt, rfl, rfl, rfl, Tn.zero _ _ HF8.out, HO3.out, HB3.out⟩
      case round =>
        clear HB3 HO3
        obtain ⟨k, p2, t, X, hk, hp2, rfl, rfl, rfl, HTn, HO, HB⟩ := hrel
        obtain ⟨w0, rfl⟩ : ∃ w0 : World, w0 = wr := ⟨_, rfl⟩
        by_cases hlt : k < 32
        · have gk : decide ((k : Int) < 32) = true := by simp; omega
          have gk' : decide (k < 32) = true := by simp; omega
          obtain ⟨fk, hfk⟩ : ∃ fk, fk = first + k := ⟨_, rfl⟩
          have HFK := Lib.hid hfk
          have t1 : IntKind.i64.wrap ((first : Int) + (k : Int)) = (fk : Int) := by rw [IntWalk.i64_in _ (by omega)]; omega
          have t2 : IntKind.i64.wrap ((k : Int) + 1) = ((k + 1 : Nat) : Int) := by rw [IntWalk.i64_in _ (by omega)]; omega
          have hfkb : fk < 481000 := by omega
          clear hfk
          by_cases hp : p2 % 2 = 1
          · have gp : (((p2 : Int) % 2) == 1) = true := by have : (p2 : Int) % 2 = 1 := by omega
                                                           rw [this]; rfl
            have gp' : (p2 : Int) % 2 = 1 := by omega
            by_cases hin : fk < L8
            · have gi : decide ((fk : Int) < (L8 : Int)) = true := by simp; omega
              have gi' : decide (fk < L8) = true := by simp; omega
              obtain ⟨j, hj⟩ : ∃ j, j = fk / 8 := ⟨_, rfl⟩
              obtain ⟨r, hr⟩ : ∃ r, r = fk % 8 := ⟨_, rfl⟩
              have hr8 : r < 8 := by omega
              have hjL : j < L := by have := HL8.out; omega
              have hjr : fk = 8 * j + r := by omega
              have HJR := Lib.hid hjr
              have q1 : (fk : Int) % 8 = (r : Int) := by omega
              have q2 : (fk : Int).tmod 8 = (r : Int) := by rw [Int.tmod_eq_emod_of_nonneg (by omega)]; omega
              have q3 : (fk : Int) / 8 = (j : Int) := by omega
              have q4 : (fk : Int).tdiv 8 = (j : Int) := by rw [Int.tdiv_eq_ediv_of_nonneg (by omega)]; omega
              clear hj hr hjr
              go_wp2_with fail
              go_loopw [14, 15] (fun mv nv wx => ∃ i M : Nat, i ≤ r ∧ M ≤ 128 ∧ mv = .int .u8 M ∧ nv = .int .i64 i ∧ Hid (M = 2 ^ i) ∧ wx = w0) (fun _ nv _ => r - (intOf nv).toNat)
              case atStart => exact ⟨0, 1, by omega, by omega, rfl, rfl, by show _ = _; rfl, rfl⟩
              case round =>
                obtain ⟨i, M, hi, hM, rfl, rfl, HM, rfl⟩ := hrel
                by_cases hir : i < r
                · have gr : decide ((i : Int) < (r : Int)) = true := by simp; omega
                  have gr' : decide (i < r) = true := by simp; omega
                  have hM64 : M ≤ 64 := by
                    have h := HM.out
                    have : 2 ^ i ≤ 2 ^ 6 := Nat.pow_le_pow_right (by omega) (by omega)
                    omega
                  have v1 : IntKind.u8.wrap (2 * (M : Int)) = ((2 * M : Nat) : Int) := by rw [IntKind.wrap_u8']; omega
                  have v2 : IntKind.i64.wrap ((i : Int) + 1) = ((i + 1 : Nat) : Int) := by rw [IntWalk.i64_in _ (by omega)]; omega
                  go_wp2_with fail
                  go_roundw
                  case measure => go_light; simp [intOf]; omega
                  case rel => go_light; exact ⟨i + 1, 2 * M, by omega, by omega, by first | rfl | go_num, by first | rfl | go_num, by show _ = _; rw [HM.out, Nat.pow_succ]; omega, by first | rfl | trivial⟩
                · obtain rfl : i = r := by omega
                  have gr : decide ((i : Int) < (i : Int)) = false := by simp
                  have gr' : decide (i < i) = false := by simp
                  have hXl : X.length = L := by rw [HL.out]; exact HTn.out.1
                  have y0 : X.getD j 0 ≤ 255 := by
                    rw [List.getD_eq_getElem?_getD, List.getElem?_eq_getElem (by omega)]
                    exact HTn.out.2.1 _ (List.getElem_mem _)
                  have c0 : wr.cell? ⟨g, j, none⟩ = some (.int .u8 (X.getD j 0 : Nat)) := by
                    rw [(Lz.own_cells HO.out hjL).1]
                    simp [numL, List.getD_eq_getElem?_getD, List.getElem?_eq_getElem (show j < X.length by omega)]
                  have fz := (Lz.own_cells HO.out hjL).2.1
                  have HY : Hid (X.getD j 0 = X.getD j 0) := rfl
                  obtain ⟨y, hy⟩ : ∃ y, y = X.getD j 0 := ⟨_, rfl⟩
                  rw [← hy] at y0 c0
                  have v1 : bits .xor .u8 (y : Int) (M : Int) = ((y ^^^ M : Nat) : Int) := u8_xor_nat y M (by omega) (by omega)
                  have x0 : (0 : Int) ≤ (j : Int) := by omega
                  have x1 : (j : Int) < (L : Int) := by omega
                  obtain ⟨p3, hp3⟩ : ∃ p3, p3 = p2 / 2 := ⟨_, rfl⟩
                  have u1 : (p2 : Int) / 2 = (p3 : Int) := by omega
                  have u2 : (p2 : Int).tdiv 2 = (p3 : Int) := by rw [Int.tdiv_eq_ediv_of_nonneg (by omega)]; exact u1
                  have hp3l : p3 < 4294967296 := by omega
                  obtain ⟨z, hz⟩ : ∃ z, z = y ^^^ M := ⟨_, rfl⟩
                  rw [← hz] at v1
                  have HTN : Hid (Tn R 5 first (k + 1) (X.set j z) true) := by
                    have h := Tn.flip HTn.out (j := j) (r := i) (by rw [← HFK.out]; exact HJR.out) hr8 (by omega) hfl.1
                    rw [hz, hy, HM.out]
                    exact h
                  have HO5 : Hid ((wr.setCell ⟨g, j, none⟩ (.int .u8 (z : Nat))).ownsRow w.heap.size 5 1 (.slice (some ⟨g, 0, none⟩) L cg) L (numL .u8 (X.set j z))) := by
                    rw [← numL_set]
                    exact Lz.own_put HO.out _ hjL
                  have HB5 : Hid (Below w.heap.size w (wr.setCell ⟨g, j, none⟩ (.int .u8 (z : Nat)))) := bel_set hg0 HB.out
                  clear hp3 hy hz HY
                  go_wp2_with fail
                  go_roundw
                  case measure => go_light; simp [intOf]; omega
                  case rel => go_light; exact ⟨k + 1, p3, true, X.set j z, by omega, hp3l, by first | rfl | trivial, by first | rfl | trivial, by first | rfl | go_num, HTN.out, HO5.out, HB5.out⟩
            · have gi : decide ((fk : Int) < (L8 : Int)) = false := by simp; omega
              have gi' : decide (fk < L8) = false := by simp; omega
              obtain ⟨p3, hp3⟩ : ∃ p3, p3 = p2 / 2 := ⟨_, rfl⟩
              have u1 : (p2 : Int) / 2 = (p3 : Int) := by omega
              have u2 : (p2 : Int).tdiv 2 = (p3 : Int) := by rw [Int.tdiv_eq_ediv_of_nonneg (by omega)]; exact u1
              have hp3l : p3 < 4294967296 := by omega
              have HTN : Hid (Tn R 5 first (k + 1) X t) := HTn.out.skip
              clear hp3
              go_wp2_with fail
              go_roundw
              case measure => go_light; simp [intOf]; omega
              case rel => go_light; exact ⟨k + 1, p3, t, X, by omega, hp3l, by first | rfl | trivial, by first | rfl | trivial, by first | rfl | go_num, HTN.out, HO.out, HB.out⟩
          · have gp : (((p2 : Int) % 2) == 1) = false := by rw [beq_eq_false_iff_ne]; omega
            have gp' : (p2 : Int) % 2 = 0 := by omega
            obtain ⟨p3, hp3⟩ : ∃ p3, p3 = p2 / 2 := ⟨_, rfl⟩
            have u1 : (p2 : Int) / 2 = (p3 : Int) := by omega
            have u2 : (p2 : Int).tdiv 2 = (p3 : Int) := by rw [Int.tdiv_eq_ediv_of_nonneg (by omega)]; exact u1
            have hp3l : p3 < 4294967296 := by omega
            have HTN : Hid (Tn R 5 first (k + 1) X t) := HTn.out.skip
            clear hp3
            go_wp2_with fail
            go_roundw
            case measure => go_light; simp [intOf]; omega
            case rel => go_light; exact ⟨k + 1, p3, t, X, by omega, hp3l, by first | rfl | trivial, by first | rfl | trivial, by first | rfl | go_num, HTN.out, HO.out, HB.out⟩
        · obtain rfl : k = 32 := by omega
          have gk : decide (((32 : Nat) : Int) < 32) = false := by simp
          have E3 := Lib.hid (D4.out w0 (some ⟨g, 0, none⟩) cg L X (by omega) HB.out (HTn.out.1.trans HL.out.symm) HTn.out.2.1 HO.out)
          have hcs : t = true → unE X = 5 ∧ unL X = [] ∧ unN X = 0 := fun h => HT.out first 32 X (Nat.le_refl _) (by have := HTn.out; rw [h] at this; exact this)
          cases t with
          | true =>
            obtain ⟨e1, e2, e3⟩ := hcs rfl
            rw [e1, e2, e3] at E3
            clear hcs e1 e2 e3 HT HTn D4
            generalize unO X = uo at *
            obtain ⟨a1, a2, a3, a4, a5, a6⟩ := uo
            simp only at E3
            go_wp2_with fail
            refine E3.out.mono ?_
            rintro e w5 ⟨v, rfl, ho, hb5⟩
            obtain ⟨A5, c5, rfl⟩ := own_shape ho
            have HB5 : Hid (Below w.heap.size w w5) := bel_step0 hb5 HB.out
            clear ho hb5 E3
            go_wp2_with fail
            go_ret
            exact ⟨rfl, bel_alloc HB5.out.size HB5.out⟩
          | false =>
            generalize unE X = ue at *
            generalize unO X = uo at *
            generalize unL X = ul at *
            generalize unN X = un at *
            obtain ⟨a1, a2, a3, a4, a5, a6⟩ := uo
            simp only at E3
            clear hcs HT HTn D4
            go_wp2_with fail
            refine E3.out.mono ?_
            rintro e w5 ⟨v, rfl, ho, hb5⟩
            obtain ⟨A5, c5, rfl⟩ := own_shape ho
            have HB5 : Hid (Below w.heap.size w w5) := bel_step0 hb5 HB.out
            clear ho hb5 E3
            go_wp2_with fail
            go_ret
            exact ⟨rfl, bel_alloc HB5.out.size HB5.out⟩
    · have gE : (E != 0) = true := by simpa using ho
      clear ho s1 s2 HRB HPL D4
      go_wp2_with fail
      refine E5.out.mono ?_
      rintro e w6 ⟨v6, rfl, ho6, hb6⟩
      obtain ⟨A6, c6, rfl⟩ := own_shape ho6
      have B6 : Hid (Below wa.heap.size wa w6) := bel_step0 hb6 B5.out
      clear ho6 hb6 E5 B5 k0 k1 k2 k3 k4 k5
      go_wp2_with fail
      go_ret
      exact ⟨rfl, HWA.out _ B6.out⟩
end Go.Proofs.YtmgjgkdbagbleaaGreatDoor.One
