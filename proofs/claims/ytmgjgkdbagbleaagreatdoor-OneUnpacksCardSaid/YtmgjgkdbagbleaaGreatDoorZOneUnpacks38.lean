/-
  The walk of one.reader's block. The log of an archive of version 1: the plain form (the walk of reader.log is still to be written). Archives of version 1 unpacked: the plain form; what was packed is unpacked; what was turned has a wrong sum. No walk. The walk of one.reader's log. The walk of one.Unpack. The walk of the reference's Unpack of an archive of version 1. The walk of the law OneUnpacks.
-/
import Derived.Test.YtmgjgkdbagbleaaGreatDoorZOneUnpacks28
import Derived.Test.YtmgjgkdbagbleaaGreatDoorZOneUnpacks27
import Derived.Test.YtmgjgkdbagbleaaGreatDoorZOneUnpacks36
import Derived.Test.YtmgjgkdbagbleaaGreatDoorZOneUnpacks37
import Derived.Test.YtmgjgkdbagbleaaGreatDoorZOneUnpacks6
namespace Go.Proofs.YtmgjgkdbagbleaaGreatDoor.One
open Go.RowKit Go.Proofs.YtmgjgkdbagbleaaGreatDoor.Mem Go.Proofs.YtmgjgkdbagbleaaGreatDoor.Own Go.Proofs.YtmgjgkdbagbleaaGreatDoor.Canon Go.Proofs.YtmgjgkdbagbleaaGreatDoor.NumPut Go.Proofs.YtmgjgkdbagbleaaGreatDoor.Nums Go.Proofs.YtmgjgkdbagbleaaGreatDoor.Opts
open Go.Proofs.YtmgjgkdbagbleaaGreatDoor.Recs Go.Proofs.YtmgjgkdbagbleaaGreatDoor.Block
open Go.Proofs.YtmgjgkdbagbleaaGreatDoor.Crc (row_num_drop row_num_take run_cuth' TabAt)
def blkE (x : List Nat) : Int := if opE x ≠ 0 then opE x else if (readRecs (opO x)).2 ≠ 0 then (readRecs (opO x)).2 else if (readRecs (opO x)).1.length = 0 then 2 else 0
def blkO (x : List Nat) : List Rec := if blkE x = 0 then (readRecs (opO x)).1 else []
theorem Held.cut {w : World} {A : Option Addr} {c k : Nat} {ls : List Nat} (h : Held w A c ls) (hk : k ≤ ls.length) : Held w (cutA A k c 1) (c - k) (ls.drop k) := by
  refine ⟨?_, ?_, fun e => ?_⟩
  · rw [List.length_drop]; exact row_num_drop h.row hk h.cap
  · rw [List.length_drop]; have := h.cap; omega
  · have := h.none (cutA_some e)
    rw [List.length_drop]
    omega
set_option maxHeartbeats 2000000 in
set_option maxRecDepth 100000 in
theorem block_any (w : World) (r g base : Nat) (bs : List Nat) (A : Option Addr) (c at_ : Nat) (X : Option Addr) (d : Nat) (u2 u3 u4 u5 u6 u7 u8 u9 : Value) (hle : bs.length ≤ 100000) (h8 : ∀ x ∈ bs, x ≤ 255) (ht : TabAt w) (hX : Held w X d bs) (h : Cur w g base bs A c at_ 0) (hr : Blk w r 95 #[.pointer (some ⟨g, 0, none⟩), .slice X bs.length d, u2, u3, u4, u5, u6, u7, u8, u9]) :
    Calls Tryz.prog 132 #[.pointer (some ⟨r, 0, none⟩)] w fun e w' => ∃ v, e = .returned (.tuple #[v, .int .i64 (blkE (bs.drop at_))]) ∧
      w'.ownsRow w.heap.size 77 4 v (blkO (bs.drop at_)).length (recL (blkO (bs.drop at_))) ∧ (blkE (bs.drop at_) = 0 → Cur w' g base bs A c (at_ + opA (bs.drop at_)) 0) ∧ Kept (Apart g r w) w w' ∧ Blk w' r 95 #[.pointer (some ⟨g, 0, none⟩), .slice X bs.length d, u2, u3, u4, u5, u6, u7, u8, u9] := by
  have hrl := hr.lt
  have hrg : r ≠ g := Blk.apart hr h.blk (by decide)
  have hat := h.le
  have x0 := hr.cell 0
  have x1 := hr.cell 1
  simp only [List.getElem?_toArray, List.getElem?_cons_zero, List.getElem?_cons_succ] at x0 x1
  have ks := fun wx => run_cut (P := Tryz.prog) (t := 22) (s := 1) Tryz.underlying22 (fun _ => by kernel_rfl) X bs.length d .i64 (at_ : Int) at_ rfl hat wx
  have hx8 : ∀ x ∈ bs.drop at_, x ≤ 255 := fun x hx => h8 x (List.mem_of_mem_drop hx)
  have hxl : (bs.drop at_).length = bs.length - at_ := List.length_drop
  have D1 : Hid (∀ wx, Below w.heap.size w wx → Calls Tryz.prog 175 #[.pointer (some ⟨g, 0, none⟩)] wx fun e' w' => e' = .returned (.int .i64 (at_ : Nat)) ∧ w' = wx) := fun wx hb => at_any wx g base bs A c at_ 0 (h.step hb)
  have D2 : Hid (∀ wx, Below w.heap.size w wx → Calls Tryz.prog 155 #[.slice (cutA X at_ d 1) (bs.length - at_) (d - at_)] wx (ReadPost (bs.drop at_) wx)) := fun wx hb => by
    have hH := (hX.step hb).cut hat
    refine read_any wx (bs.drop at_) _ _ _ hxl (by omega) (by have := hH.cap; omega) (fun e => by have := hH.none e; omega) (fun h0 => row_head5 hH.row (by omega)) hx8 (ht.step hb) ?_
    have h5 := hH.row
    rw [hxl] at h5
    exact h5
  have KP : Hid (∀ wx, Below w.heap.size w wx → wx.cell? ⟨r, 0, none⟩ = some (.pointer (some ⟨g, 0, none⟩)) ∧ wx.cell? ⟨r, 1, none⟩ = some (.slice X bs.length d)) := fun wx hb => ⟨(hb.cell (p := ⟨r, 0, none⟩) hrl).trans x0, (hb.cell (p := ⟨r, 1, none⟩) hrl).trans x1⟩
  unfold ReadPost at D2
  have hol := opO_le hx8
  have ho8 := opO_u8 hx8
  have hob := op_bounds hx8
  rw [hxl] at hob
  generalize bs.drop at_ = x at *
  have F1 : Hid (opE x ≠ 0 → blkE x = opE x ∧ blkO x = []) := fun h => by
    have e : blkE x = opE x := if_pos h
    exact ⟨e, by unfold blkO; rw [if_neg (by rw [e]; exact h)]⟩
  have F2 : Hid (opE x = 0 → (readRecs (opO x)).2 ≠ 0 → blkE x = (readRecs (opO x)).2 ∧ blkO x = []) := fun h h2 => by
    have e : blkE x = (readRecs (opO x)).2 := by unfold blkE; rw [if_neg (by simpa using h), if_pos h2]
    exact ⟨e, by unfold blkO; rw [if_neg (by rw [e]; exact h2)]⟩
  have F3 : Hid (opE x = 0 → (readRecs (opO x)).2 = 0 → (readRecs (opO x)).1.length = 0 → blkE x = 2 ∧ blkO x = []) := fun h h2 h3 => by
    have e : blkE x = 2 := by unfold blkE; rw [if_neg (by simpa using h), if_neg (by simpa using h2), if_pos h3]
    exact ⟨e, by unfold blkO; rw [if_neg (by rw [e]; decide)]⟩
  have F4 : Hid (opE x = 0 → (readRecs (opO x)).2 = 0 → (readRecs (opO x)).1.length ≠ 0 → blkE x = 0 ∧ blkO x = (readRecs (opO x)).1) := fun h h2 h3 => by
    have e : blkE x = 0 := by unfold blkE; rw [if_neg (by simpa using h), if_neg (by simpa using h2), if_neg h3]
    exact ⟨e, by unfold blkO; rw [if_pos e]⟩
  generalize blkE x = E0 at *
  generalize blkO x = O0 at *
  generalize opA x = oa at *
  have H := Lib.hid h
  have HR := Lib.hid hr
  have HOB := Lib.hid hob
  have HO8 := Lib.hid ho8
  have HOL : Hid ((opO x).length ≤ 100000) := by show _ ≤ _; omega
  clear hX h hr hx8 hxl ht hob ho8 hol
  generalize hm : bs.length - at_ = mm at *
  have HM := Lib.hid hm
  clear hm
  go_enter Tryz.func132, Tryz.ntmps132
  go_upto_region 1 with fail
  have b0 : Below w.heap.size w w.drew := (Below.refl _ _).drew
  go_region_held3 (fun wx => wx.cell? ⟨r, 0, none⟩ = some (.pointer (some ⟨g, 0, none⟩)) ∧ wx.cell? ⟨r, 1, none⟩ = some (.slice X bs.length d)) (first | exact ⟨x0, x1⟩ | exact KP.out _ (by assumption)) (first | (go_at_call 155; (with_reducible refine (D2.out _ (by assumption)).mono ?_); rintro e' w' ⟨v, rfl, hown, hb⟩; have bN : Below w.heap.size w w' := bel_step (by assumption) (Below.size (by assumption)) (by assumption)) | (go_at_call 175; (with_reducible refine (D1.out _ (by assumption)).mono ?_); rintro e' w' ⟨rfl, rfl⟩))
  obtain ⟨va, vc, rfl⟩ := own_shape hown
  have hgl := H.out.blk.lt
  have hc1 := H.out.step bN
  have br1 := HR.out.step bN
  have y0 := br1.cell 0
  simp only [List.getElem?_toArray, List.getElem?_cons_zero] at y0
  have HC1 := Lib.hid hc1
  have BR1 := Lib.hid br1
  have HB := Lib.hid bN
  have HO : Hid (w'.ownsRow w.heap.size 5 1 (.slice va (opO x).length vc) (opO x).length (numL .u8 (opO x))) := hown
  clear hown hb b0 bN hc1 br1 D1 D2 KP x0 x1 ks
  by_cases he : opE x = 0
  · have hoA := (HOB.out he).1
    have hEA : takeA bs at_ 0 oa = at_ + oa := (takeA0 _ _ _).trans (if_neg (by rw [HM.out]; omega))
    have hEE : takeE bs at_ 0 oa = 0 := (takeE0 _ _ _).trans (if_neg (by rw [HM.out]; omega))
    have DT := Lib.hid (take_any w' g base bs A c at_ 0 oa hle (by have := HM.out; omega) HC1.out)
    unfold TakePost at DT
    rw [hEA, hEE] at DT
    have F2 := Lib.hid (F2.out he)
    have F3 := Lib.hid (F3.out he)
    have F4 := Lib.hid (F4.out he)
    have g1 : (opE x != 0) = false := by simp [he]
    clear hEA hEE HOB he F1
    go_wp2_with fail
    refine DT.out.mono ?_
    rintro e w2 ⟨vt, rfl, hownt, hc2, hk2⟩
    have HO2 : Hid (w2.ownsRow w.heap.size 5 1 (.slice va (opO x).length vc) (opO x).length (numL .u8 (opO x))) := own_kept HO.out (fun y hy => hk2.block y ⟨(World.ownsRow.lt HO.out y hy).2, by have := (World.ownsRow.lt HO.out y hy).1; omega⟩)
    have HK2 : Hid (Kept (Apart g r w) w w2) := (Kept.of_below HB.out (fun y hy => hy.1)).trans ⟨hk2.os, hk2.tape, hk2.output, hk2.size, fun y hy => hk2.block y ⟨Nat.lt_of_lt_of_le hy.1 HB.out.size, hy.2.1⟩⟩
    have HR2 : Hid (Blk w2 r 95 #[.pointer (some ⟨g, 0, none⟩), .slice X bs.length d, u2, u3, u4, u5, u6, u7, u8, u9]) := (hk2.block r ⟨Nat.lt_of_lt_of_le hrl HB.out.size, hrg⟩).trans BR1.out
    have DR := Lib.hid (recsread_any w2 va (opO x).length vc (opO x) rfl HOL.out HO8.out (own_none HO2.out) (own_row HO2.out))
    unfold RecsPost at DR
    have HC2 := Lib.hid hc2
    generalize readRecs (opO x) = R at *
    generalize (opO x).length = ol at *
    obtain ⟨rl, re⟩ := R
    simp only at DR ⊢
    clear hownt hc2 hk2 DT HO HO2 HOL HC1
    by_cases hre : re = 0
    · subst hre
      by_cases hl : rl.length = 0
      · obtain ⟨rfl, rfl⟩ := F3.out rfl hl
        have g2 : (((rl.length : Nat) : Int) == 0) = true := by rw [hl]; rfl
        clear F2 F3 F4
        rw [hl] at DR
        go_wp2_with fail
        refine DR.out.mono ?_
        rintro e w3 ⟨v3, rfl, hown3, hb3⟩
        obtain ⟨va3, vc3, rfl⟩ := own_shape hown3
        have HB3 := Lib.hid hb3
        clear hown3 hb3 DR
        go_wp2_with fail
        go_ret2
        exact ⟨_, rfl, World.ownsRow_nil _ _ _ _, fun h => absurd h (by decide), HK2.out.trans (Kept.of_below HB3.out (fun y hy => Nat.lt_of_lt_of_le hy.1 HK2.out.size)), (HB3.out.block r (Nat.lt_of_lt_of_le hrl HK2.out.size)).trans HR2.out⟩
      · obtain ⟨rfl, rfl⟩ := F4.out rfl hl
        have g2 : (((O0.length : Nat) : Int) == 0) = false := beq_eq_false_iff_ne.2 (by omega)
        have g4 : decide (O0 = []) = false := by simp; intro h; simp [h] at hl
        clear F2 F3 F4 hl
        go_wp2_with fail
        refine DR.out.mono ?_
        rintro e w3 ⟨v3, rfl, hown3, hb3⟩
        obtain ⟨va3, vc3, rfl⟩ := own_shape hown3
        have HB3 := Lib.hid hb3
        have HO3 := Lib.hid hown3
        clear hown3 hb3 DR
        go_wp2_with fail
        go_ret2
        exact ⟨_, rfl, own_mono HO3.out HK2.out.size, by first | exact HC2.out.step HB3.out | exact fun _ => HC2.out.step HB3.out, HK2.out.trans (Kept.of_below HB3.out (fun y hy => Nat.lt_of_lt_of_le hy.1 HK2.out.size)), (HB3.out.block r (Nat.lt_of_lt_of_le hrl HK2.out.size)).trans HR2.out⟩
    · have g2 : (re != 0) = true := by simpa using hre
      have HRE := Lib.hid hre
      obtain ⟨rfl, rfl⟩ := F2.out hre
      clear F2 F3 F4 hre
      go_wp2_with fail
      refine DR.out.mono ?_
      rintro e w3 ⟨v3, rfl, hown3, hb3⟩
      obtain ⟨va3, vc3, rfl⟩ := own_shape hown3
      have HB3 := Lib.hid hb3
      clear hown3 hb3 DR
      go_wp2_with fail
      go_ret2
      exact ⟨_, rfl, World.ownsRow_nil _ _ _ _, fun h => absurd h HRE.out, HK2.out.trans (Kept.of_below HB3.out (fun y hy => Nat.lt_of_lt_of_le hy.1 HK2.out.size)), (HB3.out.block r (Nat.lt_of_lt_of_le hrl HK2.out.size)).trans HR2.out⟩
  · obtain ⟨e1, rfl⟩ := F1.out he
    subst e1
    have g1 : (opE x != 0) = true := by simpa using he
    clear F1 F2 F3 F4 HOB
    have HE := Lib.hid he
    clear he
    go_wp2_with fail
    go_ret2
    exact ⟨_, rfl, World.ownsRow_nil _ _ _ _, fun h => absurd h HE.out, Kept.of_below HB.out (fun y hy => hy.1), BR1.out⟩
end Go.Proofs.YtmgjgkdbagbleaaGreatDoor.One
namespace Go.Proofs.YtmgjgkdbagbleaaGreatDoor.One
open Go.Proofs.YtmgjgkdbagbleaaGreatDoor.Recs Go.Proofs.YtmgjgkdbagbleaaGreatDoor.Block Go.Proofs.YtmgjgkdbagbleaaGreatDoor.Nums
def logGo (bs : List Nat) : Nat → Nat → List Rec → List Rec × Int × Nat
  | 0, at_, acc => (acc, 0, at_)
  | k + 1, at_, acc => if blkE (bs.drop at_) ≠ 0 then ([], blkE (bs.drop at_), at_) else logGo bs k (at_ + opA (bs.drop at_)) (acc ++ blkO (bs.drop at_))
theorem readR_len {bs : List Nat} (h8 : ∀ x ∈ bs, x ≤ 255) : ∀ (f at_ : Nat) (acc : List Rec), at_ ≤ bs.length → acc.length ≤ at_ → (readR f bs at_ acc).1.length ≤ bs.length
  | 0, at_, acc, h, ha => by unfold readR; exact Nat.le_trans ha h
  | f + 1, at_, acc, h, ha => by
    unfold readR
    split
    · exact Nat.le_trans ha h
    · split
      · simp
      · rename_i h1 h2
        have hs := recR_spec h8 h 0
        have h3 := hs.2.1 (by omega)
        refine readR_len h8 f _ _ hs.1 ?_
        rw [List.length_append, List.length_singleton]
        omega
theorem blkO_len {x : List Nat} (h8 : ∀ y ∈ x, y ≤ 255) : (blkO x).length ≤ max 32768 x.length := by
  unfold blkO
  split
  · exact Nat.le_trans (readR_len (opO_u8 h8) _ 0 [] (Nat.zero_le _) (Nat.le_refl _)) (opO_le h8)
  · simp
end Go.Proofs.YtmgjgkdbagbleaaGreatDoor.One
namespace Go.Proofs.YtmgjgkdbagbleaaGreatDoor.One
open Go.Proofs.YtmgjgkdbagbleaaGreatDoor.Recs Go.Proofs.YtmgjgkdbagbleaaGreatDoor.Block Go.Proofs.YtmgjgkdbagbleaaGreatDoor.Nums Go.Proofs.YtmgjgkdbagbleaaGreatDoor.NumPut Go.Proofs.YtmgjgkdbagbleaaGreatDoor.Opts Go.Proofs.YtmgjgkdbagbleaaGreatDoor.Crc
def logR (bs : List Nat) (N M a : Nat) : List Rec × Int :=
  if (logGo bs M a []).2.1 ≠ 0 then ([], (logGo bs M a []).2.1) else if 0 < bs.length - (logGo bs M a []).2.2 ∨ (logGo bs M a []).1.length ≠ N then ([], 2) else if chkE (logGo bs M a []).1 ≠ 0 then ([], chkE (logGo bs M a []).1) else ((logGo bs M a []).1, 0)
def opt0 : Opt := ⟨0, false, 0, 0, 0, 0⟩
def unR (bs : List Nat) : List Rec × Int := logR (wholeO bs) (hN (wholeO bs)) (hM (wholeO bs)) (hA5 (wholeO bs))
def unE (bs : List Nat) : Int := if wholeE bs ≠ 0 then wholeE bs else if headE (wholeO bs) ≠ 0 then headE (wholeO bs) else (unR bs).2
def unO (bs : List Nat) : Opt := if unE bs = 0 then hO (wholeO bs) else opt0
def unL (bs : List Nat) : List Rec := if unE bs = 0 then (unR bs).1 else []
def unN (bs : List Nat) : Nat := if unE bs = 0 then hM (wholeO bs) else 0
end Go.Proofs.YtmgjgkdbagbleaaGreatDoor.One
namespace Go.Proofs.YtmgjgkdbagbleaaGreatDoor.One
open Go.RowKit Go.Proofs.YtmgjgkdbagbleaaGreatDoor.Mem Go.Proofs.YtmgjgkdbagbleaaGreatDoor.Own Go.Proofs.YtmgjgkdbagbleaaGreatDoor.Canon Go.Proofs.YtmgjgkdbagbleaaGreatDoor.NumPut Go.Proofs.YtmgjgkdbagbleaaGreatDoor.Nums Go.Proofs.YtmgjgkdbagbleaaGreatDoor.Opts
open Go.Proofs.YtmgjgkdbagbleaaGreatDoor.Recs Go.Proofs.YtmgjgkdbagbleaaGreatDoor.Block
open Go.Proofs.YtmgjgkdbagbleaaGreatDoor.Crc (TabAt)
theorem row_apart {w w' : World} {g r base n : Nat} {X : Option Addr} {f : Nat → Nat → Value} (h : Row w base X n 1 f) (hk : Kept (Apart g r w) w w') (hb : base ≤ w.heap.size) (hg : base ≤ g) (hr : base ≤ r) : Row w' base X n 1 f :=
  h.keep fun p hp => World.cell?_of_block (hk.block p.block ⟨by omega, by omega, by omega⟩)
theorem kept_apart {a w w' : World} {g r : Nat} (h : Kept (Apart g r a) a w) (k : Kept (Apart g r w) w w') : Kept (Apart g r a) a w' :=
  h.trans ⟨k.os, k.tape, k.output, k.size, fun x hx => k.block x ⟨Nat.lt_of_lt_of_le hx.1 h.size, hx.2.1, hx.2.2⟩⟩
theorem tab_apart {w w' : World} {g r base : Nat} (h : TabAt w) (hk : Kept (Apart g r w) w w') (hb : 0 < base) (hg : base ≤ g) (hr : base ≤ r) : TabAt w' := fun i hi =>
  (World.cell?_of_block (hk.block _ ⟨h.lt, by show 0 ≠ g; omega, by show 0 ≠ r; omega⟩)).trans (h i hi)
def LogPost (w : World) (r g : Nat) (R : List Rec × Int) (cs : Array Value) (e : Ending) (w' : World) : Prop :=
  ∃ v, e = .returned (.tuple #[v, .int .i64 R.2]) ∧ w'.ownsRow w.heap.size 77 4 v R.1.length (recL R.1) ∧ Kept (Apart g r w) w w' ∧ Blk w' r 95 cs
theorem one_recL (l : List Rec) : ∀ u ∈ recL l, u.oneCell' = true := by
  intro u hu
  unfold recL at hu
  obtain ⟨r, _, hr⟩ := List.mem_flatMap.1 hu
  simp at hr
  rcases hr with rfl | rfl | rfl | rfl <;> rfl
set_option maxHeartbeats 2000000 in
set_option maxRecDepth 100000 in
theorem log_any (w : World) (r g base : Nat) (bs : List Nat) (A : Option Addr) (c a0 : Nat) (X : Option Addr) (d N M : Nat) (y2 y3 y4 y5 y6 y7 : Value) (hle : bs.length ≤ 100000) (hM : M ≤ 20000) (h8 : ∀ x ∈ bs, x ≤ 255) (ht : TabAt w) (hcap : bs.length ≤ d) (hnil : X = none → bs.length = 0 ∧ d = 0) (hX : Row w base X bs.length 1 (numF .u8 bs)) (hbr : base ≤ r) (hbg : 0 < base) (hbw : base ≤ w.heap.size)
    (h : Cur w g base bs A c a0 0) (hr : Blk w r 95 #[.pointer (some ⟨g, 0, none⟩), .slice X bs.length d, y2, y3, y4, y5, y6, y7, .int .i64 (N : Nat), .int .i64 (M : Nat)]) :
    Calls Tryz.prog 63 #[.pointer (some ⟨r, 0, none⟩)] w (LogPost w r g (logR bs N M a0) #[.pointer (some ⟨g, 0, none⟩), .slice X bs.length d, y2, y3, y4, y5, y6, y7, .int .i64 (N : Nat), .int .i64 (M : Nat)]) := by
  obtain ⟨j0, hj0, hy0, hy1, hy2⟩ := info_parts info_rec
  have hrl := hr.lt
  have hlo := h.lo
  have x9 := hr.cell 9
  simp only [List.getElem?_toArray, List.getElem?_cons_zero, List.getElem?_cons_succ] at x9
  have DB : Hid (∀ wx at_, Kept (Apart g r w) w wx → Cur wx g base bs A c at_ 0 → Blk wx r 95 #[.pointer (some ⟨g, 0, none⟩), .slice X bs.length d, y2, y3, y4, y5, y6, y7, .int .i64 (N : Nat), .int .i64 (M : Nat)] → Calls Tryz.prog 132 #[.pointer (some ⟨r, 0, none⟩)] wx fun e w' => ∃ v, e = .returned (.tuple #[v, .int .i64 (blkE (bs.drop at_))]) ∧
      w'.ownsRow wx.heap.size 77 4 v (blkO (bs.drop at_)).length (recL (blkO (bs.drop at_))) ∧ (blkE (bs.drop at_) = 0 → Cur w' g base bs A c (at_ + opA (bs.drop at_)) 0) ∧ Kept (Apart g r wx) wx w' ∧ Blk w' r 95 #[.pointer (some ⟨g, 0, none⟩), .slice X bs.length d, y2, y3, y4, y5, y6, y7, .int .i64 (N : Nat), .int .i64 (M : Nat)]) := fun wx at_ hk hc hb =>
    block_any wx r g base bs A c at_ X d y2 y3 y4 y5 y6 y7 _ _ hle h8 (tab_apart ht hk hbg hlo hbr) ⟨(row_apart hX hk hbw hlo hbr).mono (Nat.le_trans hbw hk.size), hcap, hnil⟩ hc hb
  have DL : Hid (∀ wx at_, Cur wx g base bs A c at_ 0 → Calls Tryz.prog 133 #[.pointer (some ⟨g, 0, none⟩)] wx fun e w' => e = .returned (.int .i64 (bs.length - at_ : Nat)) ∧ ∃ q, w' = wx.drewN q) := fun wx at_ hc => left_any wx g base bs A c at_ 0 hc
  have DK : Hid (∀ wx B d (l : List Rec), l.length ≤ 9223372036854775807 → Row wx wx.heap.size B l.length 4 (recF l) → Calls Tryz.prog 76 #[.slice B l.length d] wx fun e w' => e = .returned (.int .i64 (chkE l)) ∧ Below wx.heap.size wx w') := fun wx B d l hl hrow => rcheck_any wx B l.length d l rfl hl hrow
  have BL : Hid (∀ at_, (blkO (bs.drop at_)).length ≤ 100000) := fun at_ => by
    have := blkO_len (x := bs.drop at_) (fun y hy => h8 y (List.mem_of_mem_drop hy))
    rw [List.length_drop] at this
    omega
  obtain ⟨LR, hLR⟩ : ∃ LR, LR = logR bs N M a0 := ⟨_, rfl⟩
  rw [← hLR]
  unfold logR at hLR
  obtain ⟨R, hR⟩ : ∃ R, R = logGo bs M a0 [] := ⟨_, rfl⟩
  have HR0 : Hid (logGo bs M a0 [] = R) := hR.symm
  rw [← hR] at hLR
  clear hR
  have H := Lib.hid h
  have HB := Lib.hid hr
  have HLE := Lib.hid hle
  clear h hr h8 ht hX hnil hcap hle
  obtain ⟨rl, re, ra⟩ := R
  simp only at hLR
  have F1 : Hid (re ≠ 0 → LR = ([], re)) := fun h => by rw [hLR, if_pos h]
  have F2 : Hid (re = 0 → (0 < bs.length - ra ∨ rl.length ≠ N) → LR = ([], 2)) := fun h h2 => by rw [hLR, if_neg (by simpa using h), if_pos h2]
  have F3 : Hid (re = 0 → ¬ (0 < bs.length - ra ∨ rl.length ≠ N) → chkE rl ≠ 0 → LR = ([], chkE rl)) := fun h h2 h3 => by rw [hLR, if_neg (by simpa using h), if_neg h2, if_pos h3]
  have F4 : Hid (re = 0 → ¬ (0 < bs.length - ra ∨ rl.length ≠ N) → chkE rl = 0 → LR = (rl, 0)) := fun h h2 h3 => by rw [hLR, if_neg (by simpa using h), if_neg h2, if_neg (by simpa using h3)]
  clear hLR
  obtain ⟨ll, le⟩ := LR
  unfold LogPost
  simp only
  go_enter Tryz.func63, Tryz.ntmps63
  go_wp2_with fail
  go_loopw [4, 12] (fun v i wr => ∃ (k at_ : Nat) (acc : List Rec), i = .int .i64 k ∧ k ≤ M ∧ acc.length ≤ k * 100000 ∧ Hid (logGo bs (M - k) at_ acc = (rl, re, ra)) ∧ Hid (wr.ownsRow w.heap.size 77 4 v acc.length (recL acc)) ∧ Hid (Cur wr g base bs A c at_ 0) ∧ Hid (Blk wr r 95 #[.pointer (some ⟨g, 0, none⟩), .slice X bs.length d, y2, y3, y4, y5, y6, y7, .int .i64 (N : Nat), .int .i64 (M : Nat)]) ∧ Hid (Kept (Apart g r w) w wr)) (fun _ i _ => M - (intOf i).toNat)
  case atStart => exact ⟨0, a0, [], rfl, by omega, by simp, HR0.out, World.ownsRow_nil _ _ _ _, H.out, HB.out, Kept.refl _ _⟩
  case round =>
    obtain ⟨k, at_, acc, rfl, hk, hacc, HG, HO, HC, HBr, HK⟩ := hrel
    have hat := HC.out.le
    obtain ⟨w0, rfl⟩ : ∃ w0 : World, w0 = wr := ⟨_, rfl⟩
    by_cases hlt : k < M
    · have gk : decide ((k : Int) < (M : Int)) = true := by simp; omega
      have gk' : decide (k < M) = true := by simp; omega
      have t2 : IntKind.i64.wrap ((k : Int) + 1) = ((k + 1 : Nat) : Int) := by rw [IntWalk.i64_in _ (by omega)]; omega
      obtain ⟨m, hm⟩ : ∃ m, M - k = m + 1 := ⟨M - k - 1, by omega⟩
      have hm1 : M - (k + 1) = m := by omega
      have hG := HG.out
      rw [hm, logGo] at hG
      have E1 := Lib.hid (DB.out w0 at_ HK.out HC.out HBr.out)
      have bl := BL.out at_
      have HOP : Hid (blkE (bs.drop at_) = blkE (bs.drop at_)) := rfl
      generalize blkE (bs.drop at_) = be at *
      generalize blkO (bs.drop at_) = bo at *
      generalize opA (bs.drop at_) = oa at *
      have HM1 := Lib.hid hm1
      clear hm hm1 HOP HG
      by_cases hb : be = 0
      · subst hb
        have HG2 : Hid (logGo bs m (at_ + oa) (acc ++ bo) = (rl, re, ra)) := by rw [if_neg (by simp)] at hG; exact hG
        clear hG
        go_wp2_with fail
        refine E1.out.mono ?_
        rintro e w1 ⟨v, rfl, ho1, hc1, hk1, hb1⟩
        obtain ⟨A1, c1, rfl⟩ := own_shape ho1
        obtain ⟨A2, c2, rfl⟩ := own_shape HO.out
        have HO1 := Lib.hid ho1
        have HC1 := Lib.hid (hc1 (by first | rfl | trivial))
        have HK1 := Lib.hid hk1
        have HB1 := Lib.hid hb1
        clear ho1 hc1 hk1 hb1 E1
        have HO2 : Hid (w1.ownsRow w.heap.size 77 4 (.slice A2 acc.length c2) acc.length (recL acc)) := own_kept HO.out (fun x hx => HK1.out.block x ⟨(World.ownsRow.lt HO.out x hx).2, fun e => own_blk HO.out HC.out.blk (by decide) (e ▸ hx), fun e => own_blk HO.out HBr.out (by decide) (e ▸ hx)⟩)
        have HKX := Lib.hid (kept_apart HK.out HK1.out)
        have zk := HK.out.size
        have zk1 := HK1.out.size
        clear HO HC HBr
        go_wp2_with (at_builtin; refine wpList_app rfl (.tmp 22) (.tmp 23) 26 rfl w.heap.size 77 j0 _ 4 48 Tryz.underlying26 hj0 hy0 hy1 hy2 rfl (by decide) (.slice A2 acc.length c2) acc.length (recL acc) (by rfl) HO2.out A1 bo.length c1 (recL bo) (by rfl) (src_own2 HO1.out) (one_recL bo) (by unfold maxLen; omega) (by omega) (by omega) ?_; intro v5 w5 hown5 hg5 hat5)
        have hc5 : Cur w5 g base bs A c (at_ + oa) 0 :=
          ⟨HC1.out.blk.grown hg5 (fun e => own_blk HO2.out HC1.out.blk (by decide) e.symm), own_grown HC1.out.own HO2.out (by decide) hg5, HC1.out.le, HC1.out.lo⟩
        have hb5 : Blk w5 r 95 #[.pointer (some ⟨g, 0, none⟩), .slice X bs.length d, y2, y3, y4, y5, y6, y7, .int .i64 (N : Nat), .int .i64 (M : Nat)] := HB1.out.grown hg5 (fun e => own_blk HO2.out HB1.out (by decide) e.symm)
        have hk5 : Kept (Apart g r w) w w5 := HKX.out.grown hg5 (fun b h => by have := h.1; omega) (fun b hb hh => by have := (World.ownsRow.lt HO2.out b hb).1; have := hh.1; omega)
        go_roundw
        case measure => go_light; simp [intOf]; omega
        case rel =>
          go_light
          refine ⟨k + 1, at_ + oa, acc ++ bo, by first | rfl | go_num, by omega, by rw [List.length_append]; omega, by rw [HM1.out]; exact HG2.out, ?_, hc5, hb5, hk5⟩
          rw [recL_app, List.length_append]
          exact hown5
      · have hR : ([], be, at_) = (rl, re, ra) := by rw [if_pos hb] at hG; exact hG
        simp only [Prod.mk.injEq] at hR
        obtain ⟨_, e2, _⟩ := hR
        have hF := F1.out (by rw [← e2]; exact hb)
        simp only [Prod.mk.injEq] at hF
        obtain ⟨rfl, e3⟩ := hF
        obtain rfl : le = be := e3.trans e2.symm
        have g1 : (le != 0) = true := by simpa using hb
        have HBe := Lib.hid hb
        clear hG e2 e3 F1 F2 F3 F4 hb
        go_wp2_with fail
        refine E1.out.mono ?_
        rintro e w1 ⟨v, rfl, ho1, hc1, hk1, hb1⟩
        obtain ⟨A1, c1, rfl⟩ := own_shape ho1
        have HK1 := Lib.hid (kept_apart HK.out hk1)
        have HB1 := Lib.hid hb1
        clear ho1 hc1 hk1 hb1 E1
        go_wp2_with fail
        go_ret2
        exact ⟨_, rfl, World.ownsRow_nil _ _ _ _, HK1.out, HB1.out⟩
    · obtain rfl : k = M := by omega
      have gk : decide ((k : Int) < (k : Int)) = false := by simp
      have gk' : decide (k < k) = false := by simp
      have hG := HG.out
      rw [Nat.sub_self, logGo] at hG
      simp only [Prod.mk.injEq] at hG
      obtain ⟨rfl, rfl, rfl⟩ := hG
      have x0 := HBr.out.cell 0
      have x8 := HBr.out.cell 8
      simp only [List.getElem?_toArray, List.getElem?_cons_zero, List.getElem?_cons_succ] at x0 x8
      have E1 := Lib.hid (DL.out w0 at_ HC.out)
      obtain ⟨A2, c2, rfl⟩ := own_shape HO.out
      have hrow := own_recs HO.out
      have E2 := Lib.hid (fun q => DK.out (w0.drewN q) A2 c2 acc (by omega) (hrow.drewN q))
      have F2 := Lib.hid (F2.out rfl)
      have F3 := Lib.hid (F3.out rfl)
      have F4 := Lib.hid (F4.out rfl)
      have hlf : bs.length - at_ ≤ 100000 := by have := HLE.out; omega
      generalize bs.length - at_ = lf at *
      clear HG F1 DL DK DB hrow hat
      by_cases h1 : 0 < lf
      · have hF := F2.out (.inl h1)
        simp only [Prod.mk.injEq] at hF
        obtain ⟨rfl, rfl⟩ := hF
        have g1 : decide ((0 : Int) < (lf : Int)) = true := by simp; omega
        have g2 : decide (0 < lf) = true := by simp; omega
        clear F2 F3 F4 E2
        go_wp2_with fail
        refine E1.out.mono ?_
        rintro e w1 ⟨rfl, q, rfl⟩
        go_wp2_with fail
        go_ret2
        exact ⟨_, rfl, World.ownsRow_nil _ _ _ _, HK.out.drewN q, HBr.out.drewN q⟩
      · obtain rfl : lf = 0 := by omega
        by_cases h2 : acc.length = N
        · have hno : ¬ ((0 : Nat) < 0 ∨ acc.length ≠ N) := by omega
          have F3 := Lib.hid (F3.out hno)
          have F4 := Lib.hid (F4.out hno)
          have HN := Lib.hid h2
          have g1 : ((acc.length : Int) != (N : Int)) = false := by simp; omega
          clear F2 h1 hno h2
          by_cases h3 : chkE acc = 0
          · have hF := F4.out h3
            simp only [Prod.mk.injEq] at hF
            obtain ⟨rfl, rfl⟩ := hF
            rw [h3] at E2
            clear F3 F4 h3
            go_wp2_with fail
            refine E1.out.mono ?_
            rintro e w1 ⟨rfl, q, rfl⟩
            have E3 := Lib.hid (E2.out q)
            clear E1 E2
            go_wp2_with fail
            refine E3.out.mono ?_
            rintro e w2 ⟨rfl, hb2⟩
            have HB2 := Lib.hid hb2
            clear hb2 E3
            go_wp2_with fail
            go_ret2
            exact ⟨_, rfl, own_kept HO.out (fun x hx => HB2.out.block x (World.ownsRow.lt HO.out x hx).2), (HK.out.drewN q).trans (Kept.of_below HB2.out (fun x hx => Nat.lt_of_lt_of_le hx.1 HK.out.size)), (HBr.out.drewN q).step HB2.out⟩
          · have hF := F3.out h3
            simp only [Prod.mk.injEq] at hF
            obtain ⟨rfl, rfl⟩ := hF
            have g2 : (chkE acc != 0) = true := by simpa using h3
            clear F3 F4 h3
            go_wp2_with fail
            refine E1.out.mono ?_
            rintro e w1 ⟨rfl, q, rfl⟩
            have E3 := Lib.hid (E2.out q)
            clear E1 E2
            go_wp2_with fail
            refine E3.out.mono ?_
            rintro e w2 ⟨rfl, hb2⟩
            have HB2 := Lib.hid hb2
            clear hb2 E3
            go_wp2_with fail
            go_ret2
            exact ⟨_, rfl, World.ownsRow_nil _ _ _ _, (HK.out.drewN q).trans (Kept.of_below HB2.out (fun x hx => Nat.lt_of_lt_of_le hx.1 HK.out.size)), (HBr.out.drewN q).step HB2.out⟩
        · have hF := F2.out (.inr h2)
          simp only [Prod.mk.injEq] at hF
          obtain ⟨rfl, rfl⟩ := hF
          have g1 : ((acc.length : Int) != (N : Int)) = true := by simp; omega
          clear F2 F3 F4 E2 h1 h2
          go_wp2_with fail
          refine E1.out.mono ?_
          rintro e w1 ⟨rfl, q, rfl⟩
          go_wp2_with fail
          go_ret2
          exact ⟨_, rfl, World.ownsRow_nil _ _ _ _, HK.out.drewN q, HBr.out.drewN q⟩
end Go.Proofs.YtmgjgkdbagbleaaGreatDoor.One
namespace Go.Proofs.YtmgjgkdbagbleaaGreatDoor.One
open Go.RowKit Go.Proofs.YtmgjgkdbagbleaaGreatDoor.Mem Go.Proofs.YtmgjgkdbagbleaaGreatDoor.Own Go.Proofs.YtmgjgkdbagbleaaGreatDoor.Canon Go.Proofs.YtmgjgkdbagbleaaGreatDoor.NumPut Go.Proofs.YtmgjgkdbagbleaaGreatDoor.Nums Go.Proofs.YtmgjgkdbagbleaaGreatDoor.Opts
open Go.Proofs.YtmgjgkdbagbleaaGreatDoor.Recs Go.Proofs.YtmgjgkdbagbleaaGreatDoor.Block
open Go.Proofs.YtmgjgkdbagbleaaGreatDoor.Crc (TabAt)
def UnPost (bs : List Nat) (w : World) (e : Ending) (w' : World) : Prop :=
  ∃ v, e = .returned (.tuple #[(unO bs).val, v, .int .i64 (unN bs : Nat), .int .i64 (unE bs)]) ∧ w'.ownsRow w.heap.size 77 4 v (unL bs).length (recL (unL bs)) ∧ Below w.heap.size w w'
theorem intV_le (m : Nat) {bs : List Nat} (h8 : ∀ x ∈ bs, x ≤ 255) (a : Nat) (e : Int) : intV m bs a e ≤ m := by
  unfold intV
  split
  · omega
  · exact (limP_spec m (bs.drop a) (fun x hx => h8 x (List.mem_of_mem_drop hx))).1
theorem un_cases (bs : List Nat) :
    (wholeE bs ≠ 0 → unO bs = opt0 ∧ unL bs = [] ∧ unN bs = 0 ∧ unE bs = wholeE bs) ∧
    (wholeE bs = 0 → headE (wholeO bs) ≠ 0 → unO bs = opt0 ∧ unL bs = [] ∧ unN bs = 0 ∧ unE bs = headE (wholeO bs)) ∧
    (wholeE bs = 0 → headE (wholeO bs) = 0 → (unR bs).2 ≠ 0 → unO bs = opt0 ∧ unL bs = [] ∧ unN bs = 0 ∧ unE bs = (unR bs).2) ∧
    (wholeE bs = 0 → headE (wholeO bs) = 0 → (unR bs).2 = 0 → unO bs = hO (wholeO bs) ∧ unL bs = (unR bs).1 ∧ unN bs = hM (wholeO bs) ∧ unE bs = 0) := by
  have hz : unE bs ≠ 0 → unO bs = opt0 ∧ unL bs = [] ∧ unN bs = 0 := fun h => ⟨if_neg h, if_neg h, if_neg h⟩
  refine ⟨fun h => ?_, fun h h2 => ?_, fun h h2 h3 => ?_, fun h h2 h3 => ?_⟩
  · have e : unE bs = wholeE bs := if_pos h
    have := hz (by rw [e]; exact h)
    exact ⟨this.1, this.2.1, this.2.2, e⟩
  · have e : unE bs = headE (wholeO bs) := by unfold unE; rw [if_neg (by simpa using h), if_pos h2]
    have := hz (by rw [e]; exact h2)
    exact ⟨this.1, this.2.1, this.2.2, e⟩
  · have e : unE bs = (unR bs).2 := by unfold unE; rw [if_neg (by simpa using h), if_neg (by simpa using h2)]
    have := hz (by rw [e]; exact h3)
    exact ⟨this.1, this.2.1, this.2.2, e⟩
  · have e : unE bs = 0 := by unfold unE; rw [if_neg (by simpa using h), if_neg (by simpa using h2), h3]
    exact ⟨if_pos e, if_pos e, if_pos e, e⟩
theorem whole_small {bs : List Nat} (h8 : ∀ x ∈ bs, x ≤ 255) : (wholeO bs).length ≤ bs.length ∧ ∀ x ∈ wholeO bs, x ≤ 255 := by
  unfold wholeO Crc.cutO
  split
  · split
    · exact ⟨by rw [List.length_drop, List.length_take]; omega, fun x hx => h8 x (List.mem_of_mem_take (List.mem_of_mem_drop hx))⟩
    · simp
  · simp
set_option maxHeartbeats 2000000 in
set_option maxRecDepth 100000 in
theorem un_any (w : World) (A : Option Addr) (n c : Nat) (bs : List Nat) (hn : bs.length = n) (hle : n ≤ 100000) (hcap : n ≤ c) (h8 : ∀ x ∈ bs, x ≤ 255) (ht : TabAt w) (ha : Row w w.heap.size A n 1 (numF .u8 bs)) :
    Calls Tryz.prog 19 #[.slice A n c] w (UnPost bs w) := by
  have D1 := Lib.hid (fun wx (hx : Below w.heap.size w wx) => whole_any wx A n c bs hn hle hcap h8 (ht.step hx) ((ha.below hx).mono hx.size))
  have HT := Lib.hid ht
  obtain ⟨f1, f2, f3, f4⟩ := un_cases bs
  have F1 := Lib.hid f1
  have F2 := Lib.hid f2
  have F3 := Lib.hid f3
  have F4 := Lib.hid f4
  clear f1 f2 f3 f4
  obtain ⟨hx1, hx2⟩ := whole_small h8
  have hxl : (wholeO bs).length ≤ 100000 := by omega
  unfold WholePost at D1
  unfold UnPost
  have eR : unR bs = logR (wholeO bs) (hN (wholeO bs)) (hM (wholeO bs)) (hA5 (wholeO bs)) := rfl
  rw [eR] at F3 F4
  clear eR
  generalize unO bs = oo at *
  generalize unL bs = ol at *
  generalize unN bs = on at *
  generalize unE bs = oe at *
  generalize wholeE bs = e0 at *
  generalize wholeO bs = x at *
  have HX8 := Lib.hid hx2
  have HXL := Lib.hid hxl
  clear hn hle hcap h8 ht ha hx1 hx2 hxl
  go_enter Tryz.func19, Tryz.ntmps19
  go_wp2_with fail
  have hbr : Blk (w.alloc (.cells #[.int .i64 0, .bool false, .int .i64 0, .int .i64 0, .int .i64 0, .int .i64 0] 25)) w.heap.size 25 #[.int .i64 0, .bool false, .int .i64 0, .int .i64 0, .int .i64 0, .int .i64 0] := Blk.made _ _ _
  have hb1 : Below w.heap.size w (w.alloc (.cells #[.int .i64 0, .bool false, .int .i64 0, .int .i64 0, .int .i64 0, .int .i64 0] 25)) := bel_alloc0 (Below.refl _ _)
  generalize w.alloc (.cells #[.int .i64 0, .bool false, .int .i64 0, .int .i64 0, .int .i64 0, .int .i64 0] 25) = w1 at *
  refine (D1.out _ hb1).mono ?_
  rintro e w2 ⟨B, d, rfl, hH, hb2⟩
  have BLX : Hid (Below w.heap.size w w2) := bel_step0 hb2 hb1
  have BRX := Lib.hid (hbr.step hb2)
  clear D1 hbr hb1
  by_cases h0 : e0 = 0
  · subst h0
    have F2 := Lib.hid (F2.out rfl)
    have F3 := Lib.hid (F3.out rfl)
    have F4 := Lib.hid (F4.out rfl)
    have E2 := Lib.hid (new_any w2 B x.length d x rfl HXL.out hH.none hH.row)
    have HH := Lib.hid hH
    clear F1 hb2 hH
    go_wp2_with fail
    refine E2.out.mono ?_
    rintro e w3 ⟨g, C, cc, rfl, hc3, hb3⟩
    have HC3 := Lib.hid hc3
    have HB3 := Lib.hid hb3
    have z3 := hb3.size
    have hg3 := hc3.lo
    have hgl := hc3.blk.lt
    clear hc3 hb3 E2
    go_wp2_with fail
    have hr4 : Blk (w3.alloc (.cells #[.pointer (some ⟨g, 0, none⟩), .slice B x.length d, .int .i64 0, .bool false, .int .i64 0, .int .i64 0, .int .i64 0, .int .i64 0, .int .i64 0, .int .i64 0] 95)) w3.heap.size 95 #[.pointer (some ⟨g, 0, none⟩), .slice B x.length d, .int .i64 0, .bool false, .int .i64 0, .int .i64 0, .int .i64 0, .int .i64 0, .int .i64 0, .int .i64 0] := Blk.made _ _ _
    have hb4 : Below w2.heap.size w2 (w3.alloc (.cells #[.pointer (some ⟨g, 0, none⟩), .slice B x.length d, .int .i64 0, .bool false, .int .i64 0, .int .i64 0, .int .i64 0, .int .i64 0, .int .i64 0, .int .i64 0] 95)) := bel_alloc z3 HB3.out
    have hc4 : Cur (w3.alloc (.cells #[.pointer (some ⟨g, 0, none⟩), .slice B x.length d, .int .i64 0, .bool false, .int .i64 0, .int .i64 0, .int .i64 0, .int .i64 0, .int .i64 0, .int .i64 0] 95)) g w2.heap.size x C cc 0 0 := HC3.out.step (bel_alloc0 (Below.refl _ _))
    have z4 : (w3.alloc (.cells #[.pointer (some ⟨g, 0, none⟩), .slice B x.length d, .int .i64 0, .bool false, .int .i64 0, .int .i64 0, .int .i64 0, .int .i64 0, .int .i64 0, .int .i64 0] 95)).heap.size = w3.heap.size + 1 := by simp
    generalize (w3.alloc (.cells #[.pointer (some ⟨g, 0, none⟩), .slice B x.length d, .int .i64 0, .bool false, .int .i64 0, .int .i64 0, .int .i64 0, .int .i64 0, .int .i64 0, .int .i64 0] 95)) = w4 at *
    have z4' : w3.heap.size < w4.heap.size := by omega
    have zb := BLX.out.size
    have zb2 := BRX.out.lt
    have E4 := Lib.hid (head_any w4 w3.heap.size g w2.heap.size x C cc (.slice B x.length d) HXL.out HX8.out hc4 hr4)
    have HB4 := Lib.hid hb4
    clear z4 hr4 hc4 hb4 HC3 HB3
    refine E4.out.mono ?_
    rintro e w5 ⟨rfl, hc5, hr5, hk5⟩
    have HC5 := Lib.hid hc5
    have HR5 := Lib.hid hr5
    have HK5 := Lib.hid hk5
    have zk5 := hk5.size
    have BRX5 : Hid (Blk w5 w.heap.size 25 #[.int .i64 0, .bool false, .int .i64 0, .int .i64 0, .int .i64 0, .int .i64 0]) := (hk5.block _ ⟨by omega, by omega, by omega⟩).trans (BRX.out.step HB4.out)
    have BLX5 : Hid (Below w.heap.size w w5) := (BLX.out.trans (HB4.out.mono BLX.out.size)).trans (hk5.below (fun k hk => ⟨by omega, by omega, by omega⟩))
    clear hc5 hr5 hk5 E4 BRX
    by_cases h1 : headE x = 0
    · have F3 := Lib.hid (F3.out (by trivial) h1)
      have F4 := Lib.hid (F4.out (by trivial) h1)
      have hE5z : hE5 x = 0 := by
        refine Decidable.byContradiction fun hn => ?_
        unfold headE at h1
        rw [if_pos hn] at h1
        exact hn h1
      have hc5 := HC5.out
      rw [hE5z] at hc5
      have hmn : hM x ≤ 20000 := Nat.le_trans (intV_le _ HX8.out _ _) (intV_le _ HX8.out _ _)
      have hto : TabAt w2 := HT.out.step BLX.out
      have hrow : Row w5 w2.heap.size B x.length 1 (numF .u8 x) := row_apart (HH.out.row.below HB4.out) HK5.out HB4.out.size hg3 z3
      have E6 := Lib.hid (log_any w5 w3.heap.size g w2.heap.size x C cc (hA5 x) B d (hN x) (hM x) _ _ _ _ _ _ HXL.out hmn HX8.out (tab_apart (hto.step HB4.out) HK5.out hto.lt hg3 z3) HH.out.cap (fun e => ⟨(HH.out.none e).1, (HH.out.none e).2⟩) hrow z3 hto.lt (Nat.le_trans HB4.out.size HK5.out.size) hc5 HR5.out)
      unfold LogPost at E6
      rw [h1]
      clear F2 hE5z hc5 hmn hto hrow HH HC5 HR5 HK5 h1
      have HOV : Hid ((hO x).val = .agg #[.int .i64 (hO x).block, .bool (hO x).plain, .int .i64 0, .int .i64 0, .int .i64 0, .int .i64 0]) := rfl
      generalize logR x (hN x) (hM x) (hA5 x) = LR at *
      generalize hO x = ho at *
      generalize hM x = hm at *
      generalize hN x = hn at *
      obtain ⟨ll, le⟩ := LR
      simp only at E6 F3 F4
      go_wp2_with fail
      refine E6.out.mono ?_
      rintro e w6 ⟨v, rfl, ho6, hk6, hr6⟩
      obtain ⟨A6, c6, rfl⟩ := own_shape ho6
      have HO6 := Lib.hid (own_mono ho6 BLX5.out.size)
      have HR6 := Lib.hid hr6
      have BRX : Hid (Blk w6 w.heap.size 25 #[.int .i64 0, .bool false, .int .i64 0, .int .i64 0, .int .i64 0, .int .i64 0]) := (hk6.block _ ⟨by omega, by omega, by omega⟩).trans BRX5.out
      have BLX : Hid (Below w.heap.size w w6) := BLX5.out.trans (hk6.below (fun k hk => ⟨by omega, by omega, by omega⟩))
      clear ho6 hr6 hk6 E6 BRX5 BLX5
      by_cases h2 : le = 0
      · obtain ⟨rfl, rfl, rfl, rfl⟩ := F4.out h2
        subst h2
        have j0 := BRX.out.cell 0
        have j1 := BRX.out.cell 1
        have j2 := BRX.out.cell 2
        have j3 := BRX.out.cell 3
        have j4 := BRX.out.cell 4
        have j5 := BRX.out.cell 5
        have k0 := BRX.out.frozen 0
        have k1 := BRX.out.frozen 1
        have k2 := BRX.out.frozen 2
        have k3 := BRX.out.frozen 3
        have k4 := BRX.out.frozen 4
        have k5 := BRX.out.frozen 5
        have m2 := HR6.out.cell 2
        have m3 := HR6.out.cell 3
        have m4 := HR6.out.cell 4
        have m5 := HR6.out.cell 5
        have m6 := HR6.out.cell 6
        have m7 := HR6.out.cell 7
        have m9 := HR6.out.cell 9
        simp only [List.getElem?_toArray, List.getElem?_cons_zero, List.getElem?_cons_succ] at j0 j1 j2 j3 j4 j5 m2 m3 m4 m5 m6 m7 m9
        clear F3 F4
        go_wp2_with fail
        go_region
        have B6 := ((((((BRX.out.set 0 (.int .i64 oo.block)).set 1 (.bool oo.plain)).set 2 (.int .i64 0)).set 3 (.int .i64 0)).set 4 (.int .i64 0)).set 5 (.int .i64 0))
        have L6 := bel_set (p := ⟨w.heap.size, 5, none⟩) (u := .int .i64 0) (Nat.le_refl _) (bel_set (p := ⟨w.heap.size, 4, none⟩) (u := .int .i64 0) (Nat.le_refl _) (bel_set (p := ⟨w.heap.size, 3, none⟩) (u := .int .i64 0) (Nat.le_refl _) (bel_set (p := ⟨w.heap.size, 2, none⟩) (u := .int .i64 0) (Nat.le_refl _) (bel_set (p := ⟨w.heap.size, 1, none⟩) (u := .bool oo.plain) (Nat.le_refl _) (bel_set (p := ⟨w.heap.size, 0, none⟩) (u := .int .i64 oo.block) (Nat.le_refl _) BLX.out)))))
        have hnb : (Value.slice A6 ol.length c6).ownBlock ≠ some w.heap.size := own_blk HO6.out BRX.out (by decide)
        have O6 := set_own (p := ⟨w.heap.size, 5, none⟩) (set_own (p := ⟨w.heap.size, 4, none⟩) (set_own (p := ⟨w.heap.size, 3, none⟩) (set_own (p := ⟨w.heap.size, 2, none⟩) (set_own (p := ⟨w.heap.size, 1, none⟩) (set_own (p := ⟨w.heap.size, 0, none⟩) HO6.out hnb (.int .i64 oo.block)) hnb (.bool oo.plain)) hnb (.int .i64 0)) hnb (.int .i64 0)) hnb (.int .i64 0)) hnb (.int .i64 0)
        generalize ((((((w6.setCell ⟨w.heap.size, 0, none⟩ (.int .i64 oo.block)).setCell ⟨w.heap.size, 1, none⟩ (.bool oo.plain)).setCell ⟨w.heap.size, 2, none⟩ (.int .i64 0)).setCell ⟨w.heap.size, 3, none⟩ (.int .i64 0)).setCell ⟨w.heap.size, 4, none⟩ (.int .i64 0)).setCell ⟨w.heap.size, 5, none⟩ (.int .i64 0)) = wf at *
        go_wp2_with fail
        have B7 := B6.drew
        have z0 := B7.cell 0
        have z1 := B7.cell 1
        have z2 := B7.cell 2
        have z3 := B7.cell 3
        have z4 := B7.cell 4
        have z5 := B7.cell 5
        simp only [List.setIfInBounds_toArray, List.set_cons_zero, List.set_cons_succ, List.getElem?_toArray, List.getElem?_cons_zero, List.getElem?_cons_succ] at z0 z1 z2 z3 z4 z5
        refine bodyPost_ret (v := .tuple #[oo.val, .slice A6 ol.length c6, .int .i64 on, .int .i64 0]) ?_ rfl ⟨_, rfl, own_kept O6 (fun x hx => rfl), L6.drew⟩
        rw [HOV.out]
        simp [results, Tryz.results19, go_sem, z0, z1, z2, z3, z4, z5]
      · obtain ⟨rfl, rfl, rfl, rfl⟩ := F3.out h2
        have g1 : (oe != 0) = true := by simpa using h2
        clear F3 F4 h2
        obtain ⟨wX, rfl⟩ : ∃ wX : World, wX = w6 := ⟨_, rfl⟩
        have B6 := ((((((BRX.out.set 0 (.int .i64 0)).set 1 (.bool false)).set 2 (.int .i64 0)).set 3 (.int .i64 0)).set 4 (.int .i64 0)).set 5 (.int .i64 0))
        have L6 := bel_set (p := ⟨w.heap.size, 5, none⟩) (u := .int .i64 0) (Nat.le_refl _) (bel_set (p := ⟨w.heap.size, 4, none⟩) (u := .int .i64 0) (Nat.le_refl _) (bel_set (p := ⟨w.heap.size, 3, none⟩) (u := .int .i64 0) (Nat.le_refl _) (bel_set (p := ⟨w.heap.size, 2, none⟩) (u := .int .i64 0) (Nat.le_refl _) (bel_set (p := ⟨w.heap.size, 1, none⟩) (u := .bool false) (Nat.le_refl _) (bel_set (p := ⟨w.heap.size, 0, none⟩) (u := .int .i64 0) (Nat.le_refl _) BLX.out)))))
        have j0 := BRX.out.cell 0
        have j1 := BRX.out.cell 1
        have j2 := BRX.out.cell 2
        have j3 := BRX.out.cell 3
        have j4 := BRX.out.cell 4
        have j5 := BRX.out.cell 5
        have k0 := BRX.out.frozen 0
        have k1 := BRX.out.frozen 1
        have k2 := BRX.out.frozen 2
        have k3 := BRX.out.frozen 3
        have k4 := BRX.out.frozen 4
        have k5 := BRX.out.frozen 5
        simp only [List.getElem?_toArray, List.getElem?_cons_zero, List.getElem?_cons_succ] at j0 j1 j2 j3 j4 j5
        go_wp2_with fail
        generalize ((((((wX.setCell ⟨w.heap.size, 0, none⟩ (.int .i64 0)).setCell ⟨w.heap.size, 1, none⟩ (.bool false)).setCell ⟨w.heap.size, 2, none⟩ (.int .i64 0)).setCell ⟨w.heap.size, 3, none⟩ (.int .i64 0)).setCell ⟨w.heap.size, 4, none⟩ (.int .i64 0)).setCell ⟨w.heap.size, 5, none⟩ (.int .i64 0)) = w6 at *
        have z0 := B6.cell 0
        have z1 := B6.cell 1
        have z2 := B6.cell 2
        have z3 := B6.cell 3
        have z4 := B6.cell 4
        have z5 := B6.cell 5
        simp only [List.setIfInBounds_toArray, List.set_cons_zero, List.set_cons_succ, List.getElem?_toArray, List.getElem?_cons_zero, List.getElem?_cons_succ] at z0 z1 z2 z3 z4 z5
        refine bodyPost_ret (v := .tuple #[opt0.val, .slice none 0 0, .int .i64 0, .int .i64 _]) ?_ rfl ⟨_, rfl, World.ownsRow_nil _ _ _ _, L6⟩
        simp [results, Tryz.results19, go_sem, z0, z1, z2, z3, z4, z5, Opt.val, opt0]
    · obtain ⟨rfl, rfl, rfl, rfl⟩ := F2.out (by trivial) h1
      have g1 : (headE x != 0) = true := by simpa using h1
      have BRX := Lib.hid BRX5.out
      have BLX := Lib.hid BLX5.out
      clear F2 F3 F4 BRX5 BLX5
      obtain ⟨wX, rfl⟩ : ∃ wX : World, wX = w5 := ⟨_, rfl⟩
      have B6 := ((((((BRX.out.set 0 (.int .i64 0)).set 1 (.bool false)).set 2 (.int .i64 0)).set 3 (.int .i64 0)).set 4 (.int .i64 0)).set 5 (.int .i64 0))
      have L6 := bel_set (p := ⟨w.heap.size, 5, none⟩) (u := .int .i64 0) (Nat.le_refl _) (bel_set (p := ⟨w.heap.size, 4, none⟩) (u := .int .i64 0) (Nat.le_refl _) (bel_set (p := ⟨w.heap.size, 3, none⟩) (u := .int .i64 0) (Nat.le_refl _) (bel_set (p := ⟨w.heap.size, 2, none⟩) (u := .int .i64 0) (Nat.le_refl _) (bel_set (p := ⟨w.heap.size, 1, none⟩) (u := .bool false) (Nat.le_refl _) (bel_set (p := ⟨w.heap.size, 0, none⟩) (u := .int .i64 0) (Nat.le_refl _) BLX.out)))))
      have j0 := BRX.out.cell 0
      have j1 := BRX.out.cell 1
      have j2 := BRX.out.cell 2
      have j3 := BRX.out.cell 3
      have j4 := BRX.out.cell 4
      have j5 := BRX.out.cell 5
      have k0 := BRX.out.frozen 0
      have k1 := BRX.out.frozen 1
      have k2 := BRX.out.frozen 2
      have k3 := BRX.out.frozen 3
      have k4 := BRX.out.frozen 4
      have k5 := BRX.out.frozen 5
      simp only [List.getElem?_toArray, List.getElem?_cons_zero, List.getElem?_cons_succ] at j0 j1 j2 j3 j4 j5
      go_wp2_with fail
      generalize ((((((wX.setCell ⟨w.heap.size, 0, none⟩ (.int .i64 0)).setCell ⟨w.heap.size, 1, none⟩ (.bool false)).setCell ⟨w.heap.size, 2, none⟩ (.int .i64 0)).setCell ⟨w.heap.size, 3, none⟩ (.int .i64 0)).setCell ⟨w.heap.size, 4, none⟩ (.int .i64 0)).setCell ⟨w.heap.size, 5, none⟩ (.int .i64 0)) = w6 at *
      have z0 := B6.cell 0
      have z1 := B6.cell 1
      have z2 := B6.cell 2
      have z3 := B6.cell 3
      have z4 := B6.cell 4
      have z5 := B6.cell 5
      simp only [List.setIfInBounds_toArray, List.set_cons_zero, List.set_cons_succ, List.getElem?_toArray, List.getElem?_cons_zero, List.getElem?_cons_succ] at z0 z1 z2 z3 z4 z5
      refine bodyPost_ret (v := .tuple #[opt0.val, .slice none 0 0, .int .i64 0, .int .i64 _]) ?_ rfl ⟨_, rfl, World.ownsRow_nil _ _ _ _, L6⟩
      simp [results, Tryz.results19, go_sem, z0, z1, z2, z3, z4, z5, Opt.val, opt0]
  · obtain ⟨rfl, rfl, rfl, rfl⟩ := F1.out h0
    have g1 : (oe != 0) = true := by simpa using h0
    clear F1 F2 F3 F4 h0 hb2
    obtain ⟨wX, rfl⟩ : ∃ wX : World, wX = w2 := ⟨_, rfl⟩
    have B6 := ((((((BRX.out.set 0 (.int .i64 0)).set 1 (.bool false)).set 2 (.int .i64 0)).set 3 (.int .i64 0)).set 4 (.int .i64 0)).set 5 (.int .i64 0))
    have L6 := bel_set (p := ⟨w.heap.size, 5, none⟩) (u := .int .i64 0) (Nat.le_refl _) (bel_set (p := ⟨w.heap.size, 4, none⟩) (u := .int .i64 0) (Nat.le_refl _) (bel_set (p := ⟨w.heap.size, 3, none⟩) (u := .int .i64 0) (Nat.le_refl _) (bel_set (p := ⟨w.heap.size, 2, none⟩) (u := .int .i64 0) (Nat.le_refl _) (bel_set (p := ⟨w.heap.size, 1, none⟩) (u := .bool false) (Nat.le_refl _) (bel_set (p := ⟨w.heap.size, 0, none⟩) (u := .int .i64 0) (Nat.le_refl _) BLX.out)))))
    have j0 := BRX.out.cell 0
    have j1 := BRX.out.cell 1
    have j2 := BRX.out.cell 2
    have j3 := BRX.out.cell 3
    have j4 := BRX.out.cell 4
    have j5 := BRX.out.cell 5
    have k0 := BRX.out.frozen 0
    have k1 := BRX.out.frozen 1
    have k2 := BRX.out.frozen 2
    have k3 := BRX.out.frozen 3
    have k4 := BRX.out.frozen 4
    have k5 := BRX.out.frozen 5
    simp only [List.getElem?_toArray, List.getElem?_cons_zero, List.getElem?_cons_succ] at j0 j1 j2 j3 j4 j5
    go_wp2_with fail
    generalize ((((((wX.setCell ⟨w.heap.size, 0, none⟩ (.int .i64 0)).setCell ⟨w.heap.size, 1, none⟩ (.bool false)).setCell ⟨w.heap.size, 2, none⟩ (.int .i64 0)).setCell ⟨w.heap.size, 3, none⟩ (.int .i64 0)).setCell ⟨w.heap.size, 4, none⟩ (.int .i64 0)).setCell ⟨w.heap.size, 5, none⟩ (.int .i64 0)) = w6 at *
    have z0 := B6.cell 0
    have z1 := B6.cell 1
    have z2 := B6.cell 2
    have z3 := B6.cell 3
    have z4 := B6.cell 4
    have z5 := B6.cell 5
    simp only [List.setIfInBounds_toArray, List.set_cons_zero, List.set_cons_succ, List.getElem?_toArray, List.getElem?_cons_zero, List.getElem?_cons_succ] at z0 z1 z2 z3 z4 z5
    refine bodyPost_ret (v := .tuple #[opt0.val, .slice none 0 0, .int .i64 0, .int .i64 _]) ?_ rfl ⟨_, rfl, World.ownsRow_nil _ _ _ _, L6⟩
    simp [results, Tryz.results19, go_sem, z0, z1, z2, z3, z4, z5, Opt.val, opt0]
end Go.Proofs.YtmgjgkdbagbleaaGreatDoor.One
namespace Go.Proofs.YtmgjgkdbagbleaaGreatDoor.One
open Go.RowKit Go.Proofs.YtmgjgkdbagbleaaGreatDoor.Mem Go.Proofs.YtmgjgkdbagbleaaGreatDoor.Own Go.Proofs.YtmgjgkdbagbleaaGreatDoor.Canon Go.Proofs.YtmgjgkdbagbleaaGreatDoor.NumPut Go.Proofs.YtmgjgkdbagbleaaGreatDoor.Nums Go.Proofs.YtmgjgkdbagbleaaGreatDoor.Opts
open Go.Proofs.YtmgjgkdbagbleaaGreatDoor.Recs Go.Proofs.YtmgjgkdbagbleaaGreatDoor.Block
open Go.Proofs.YtmgjgkdbagbleaaGreatDoor.Crc (cutE cutO CutPost row_num_drop)
theorem bel_six {B b : Nat} {a w : World} (hb : B ≤ b) (h : Below B a w) (u v : Value) : Below B a ((((((w.setCell ⟨b, 0, none⟩ (u)).setCell ⟨b, 1, none⟩ (v)).setCell ⟨b, 2, none⟩ (.int .i64 0)).setCell ⟨b, 3, none⟩ (.int .i64 0)).setCell ⟨b, 4, none⟩ (.int .i64 0)).setCell ⟨b, 5, none⟩ (.int .i64 0)) :=
  bel_set (p := ⟨b, 5, none⟩) hb (bel_set (p := ⟨b, 4, none⟩) hb (bel_set (p := ⟨b, 3, none⟩) hb (bel_set (p := ⟨b, 2, none⟩) hb (bel_set (p := ⟨b, 1, none⟩) hb (bel_set (p := ⟨b, 0, none⟩) hb h)))))
structure Zs (w wx : World) : Prop where
  rb : Blk wx w.heap.size 25 #[.int .i64 0, .bool false, .int .i64 0, .int .i64 0, .int .i64 0, .int .i64 0]
  nb : Blk wx (w.heap.size + 1) 25 #[.int .i64 0, .bool false, .int .i64 0, .int .i64 0, .int .i64 0, .int .i64 0]
  bl : Below w.heap.size w wx
theorem Zs.step {w wx wy : World} (h : Zs w wx) (hb : Below wx.heap.size wx wy) : Zs w wy := ⟨h.rb.step hb, h.nb.step hb, h.bl.trans (hb.mono h.bl.size)⟩
theorem Zs.kept {w wx wy : World} {g : Nat} (h : Zs w wx) (hk : Kept (Others g wx) wx wy) (hg : w.heap.size + 1 < g) : Zs w wy :=
  ⟨(hk.block _ ⟨h.rb.lt, by omega⟩).trans h.rb, (hk.block _ ⟨h.nb.lt, by omega⟩).trans h.nb, h.bl.trans (hk.below (fun k hk' => ⟨by have := h.bl.size; omega, by omega⟩))⟩
theorem Zs.set {w wx : World} {p : Addr} (h : Zs w wx) (hp : w.heap.size + 1 < p.block) (u : Value) : Zs w (wx.setCell p u) :=
  ⟨h.rb.far (by omega) u, h.nb.far (by omega) u, bel_set (by omega) h.bl⟩
theorem Zs.drewN {w wx : World} (h : Zs w wx) (q : Nat) : Zs w (wx.drewN q) := ⟨h.rb.drewN q, h.nb.drewN q, below_drewN h.bl q⟩
theorem kept_blk {wx wy : World} {g b : Nat} {t : TypeId} {cs : Array Value} (h : Blk wx b t cs) (hk : Kept (Others g wx) wx wy) (hne : b ≠ g) : Blk wy b t cs := (hk.block _ ⟨h.lt, hne⟩).trans h
theorem row_oth {wx wy : World} {g B n : Nat} {Y : Option Addr} {f : Nat → Nat → Value} (h : Row wx B Y n 1 f) (hk : Kept (Others g wx) wx wy) (hB : B ≤ wx.heap.size) (hg : B ≤ g) : Row wy B Y n 1 f :=
  h.keep fun p hp => World.cell?_of_block (hk.block p.block ⟨by omega, by omega⟩)
theorem oth_trans {a w w' : World} {g : Nat} (h : Kept (Others g a) a w) (k : Kept (Others g w) w w') : Kept (Others g a) a w' :=
  h.trans ⟨k.os, k.tape, k.output, k.size, fun x hx => k.block x ⟨Nat.lt_of_lt_of_le hx.1 h.size, hx.2⟩⟩
theorem oth_below {a w w' : World} {g : Nat} (h : Kept (Others g a) a w) (k : Below w.heap.size w w') : Kept (Others g a) a w' :=
  h.trans (Kept.of_below k (fun _ hx => Nat.lt_of_lt_of_le hx.1 h.size))
theorem whole_cases (bs : List Nat) :
    (markE bs ≠ 0 → wholeE bs = markE bs) ∧ (markE bs = 0 → markV bs ≠ 1 → wholeE bs = 4) ∧ (markE bs = 0 → markV bs = 1 → cutE bs ≠ 0 → wholeE bs = cutE bs) ∧
    (markE bs = 0 → markV bs = 1 → cutE bs = 0 → (cutO bs).length < 5 → wholeE bs = 1) ∧ (markE bs = 0 → markV bs = 1 → cutE bs = 0 → ¬ (cutO bs).length < 5 → wholeE bs = 0 ∧ wholeO bs = (cutO bs).drop 5) := by
  refine ⟨fun h => ?_, fun h h2 => ?_, fun h h2 h3 => ?_, fun h h2 h3 h4 => ?_, fun h h2 h3 h4 => ?_⟩
  · unfold wholeE; rw [if_pos h]
  · unfold wholeE; rw [if_neg (by simpa using h), if_pos h2]
  · unfold wholeE; rw [if_neg (by simpa using h), if_neg (by simpa using h2), if_pos h3]
  · unfold wholeE; rw [if_neg (by simpa using h), if_neg (by simpa using h2), if_neg (by simpa using h3), if_pos h4]
  · have e : wholeE bs = 0 := by unfold wholeE; rw [if_neg (by simpa using h), if_neg (by simpa using h2), if_neg (by simpa using h3), if_neg h4]
    exact ⟨e, by unfold wholeO; rw [if_pos e]⟩
theorem blk_cases (x : List Nat) :
    (opE x ≠ 0 → blkE x = opE x ∧ blkO x = []) ∧ (opE x = 0 → (readRecs (opO x)).2 ≠ 0 → blkE x = (readRecs (opO x)).2 ∧ blkO x = []) ∧
    (opE x = 0 → (readRecs (opO x)).2 = 0 → (readRecs (opO x)).1.length = 0 → blkE x = 2 ∧ blkO x = []) ∧ (opE x = 0 → (readRecs (opO x)).2 = 0 → (readRecs (opO x)).1.length ≠ 0 → blkE x = 0 ∧ blkO x = (readRecs (opO x)).1) := by
  refine ⟨fun h => ?_, fun h h2 => ?_, fun h h2 h3 => ?_, fun h h2 h3 => ?_⟩
  · have e : blkE x = opE x := if_pos h
    exact ⟨e, by unfold blkO; rw [if_neg (by rw [e]; exact h)]⟩
  · have e : blkE x = (readRecs (opO x)).2 := by unfold blkE; rw [if_neg (by simpa using h), if_pos h2]
    exact ⟨e, by unfold blkO; rw [if_neg (by rw [e]; exact h2)]⟩
  · have e : blkE x = 2 := by unfold blkE; rw [if_neg (by simpa using h), if_neg (by simpa using h2), if_pos h3]
    exact ⟨e, by unfold blkO; rw [if_neg (by rw [e]; decide)]⟩
  · have e : blkE x = 0 := by unfold blkE; rw [if_neg (by simpa using h), if_neg (by simpa using h2), if_neg h3]
    exact ⟨e, by unfold blkO; rw [if_pos e]⟩
theorem rest_cases {e0 : Int} {x : List Nat} {oo : Opt} {ol : List Rec} {on : Nat} {oe : Int} (he : e0 = 0)
    (f2 : e0 = 0 → headE x ≠ 0 → oo = opt0 ∧ ol = [] ∧ on = 0 ∧ oe = headE x)
    (f3 : e0 = 0 → headE x = 0 → (logR x (hN x) (hM x) (hA5 x)).2 ≠ 0 → oo = opt0 ∧ ol = [] ∧ on = 0 ∧ oe = (logR x (hN x) (hM x) (hA5 x)).2)
    (f4 : e0 = 0 → headE x = 0 → (logR x (hN x) (hM x) (hA5 x)).2 = 0 → oo = hO x ∧ ol = (logR x (hN x) (hM x) (hA5 x)).1 ∧ on = hM x ∧ oe = 0)
    {rl : List Rec} {re : Int} {ra : Nat} (hR : logGo x (hM x) (hA5 x) [] = (rl, re, ra)) :
    (hE5 x ≠ 0 → oo = opt0 ∧ ol = [] ∧ on = 0 ∧ oe = hE5 x) ∧ (hE5 x = 0 → optE (hO x) ≠ 0 → oo = opt0 ∧ ol = [] ∧ on = 0 ∧ oe = 9) ∧
    (hE5 x = 0 → optE (hO x) = 0 → re ≠ 0 → oo = opt0 ∧ ol = [] ∧ on = 0 ∧ oe = re) ∧ (hE5 x = 0 → optE (hO x) = 0 → re = 0 → (0 < x.length - ra ∨ rl.length ≠ hN x) → oo = opt0 ∧ ol = [] ∧ on = 0 ∧ oe = 2) ∧
    (hE5 x = 0 → optE (hO x) = 0 → re = 0 → ¬ (0 < x.length - ra ∨ rl.length ≠ hN x) → chkE rl ≠ 0 → oo = opt0 ∧ ol = [] ∧ on = 0 ∧ oe = 6) ∧
    (hE5 x = 0 → optE (hO x) = 0 → re = 0 → ¬ (0 < x.length - ra ∨ rl.length ≠ hN x) → chkE rl = 0 → oo = hO x ∧ ol = rl ∧ on = hM x ∧ oe = 0) := by
  have f2 := f2 he
  have f3 := f3 he
  have f4 := f4 he
  have hh : hE5 x = 0 → headE x = optE (hO x) := fun h => if_neg (by simpa using h)
  refine ⟨fun h => ?_, fun h h2 => ?_, fun h h2 h3 => ?_, fun h h2 h3 h4 => ?_, fun h h2 h3 h4 h5 => ?_, fun h h2 h3 h4 h5 => ?_⟩
  · have e : headE x = hE5 x := if_pos h
    rw [e] at f2
    exact f2 h
  · rw [hh h, optE_nine h2] at f2
    exact f2 (by decide)
  all_goals
    rw [hh h] at f3 f4
    unfold logR at f3 f4
    rw [hR] at f3 f4
    simp only at f3 f4
  · rw [if_pos h3] at f3
    exact f3 h2 h3
  · rw [if_neg (by simpa using h3), if_pos h4] at f3
    exact f3 h2 (by decide)
  · rw [if_neg (by simpa using h3), if_neg h4, if_pos h5, chkE_six h5] at f3
    exact f3 h2 (by decide)
  · rw [if_neg (by simpa using h3), if_neg h4, if_neg (by simpa using h5)] at f4
    exact f4 h2 rfl
theorem stuck_int {m : Nat} {bs : List Nat} {a : Nat} {e : Int} (h : e ≠ 0) : intE m bs a e = e := if_pos h
theorem head_bad {x : List Nat} (h : 1 < hP x) : hE3 x = failE (hE2 x) 2 ∧ hE5 x ≠ 0 := by
  have e3 : hE3 x = failE (hE2 x) 2 := if_pos h
  have hne : hE3 x ≠ 0 := by
    rw [e3]
    unfold failE
    split
    · decide
    · assumption
  refine ⟨e3, ?_⟩
  unfold hE5 hE4
  rw [stuck_int hne, stuck_int hne]
  exact hne
set_option maxHeartbeats 4000000 in
set_option maxRecDepth 100000 in
theorem run21_any (w : World) (A : Option Addr) (n c : Nat) (bs : List Nat) (hn : bs.length = n) (hle : n ≤ 100000) (hcap : n ≤ c) (h8 : ∀ x ∈ bs, x ≤ 255) (ha : Row w w.heap.size A n 1 (numF .u8 bs)) :
    Calls Tryz.prog 20 #[.slice A n c] w (UnPost bs w) := by
  have D1 := Lib.hid (fun wx (hx : Below w.heap.size w wx) => rmarked_any wx A n c bs hn hle ((ha.below hx).mono hx.size))
  have D2 := Lib.hid (fun wx (hx : Below w.heap.size w wx) => rcut_any wx A n c bs hn hle hcap h8 ((ha.below hx).mono hx.size))
  obtain ⟨f1, f2, f3, f4⟩ := un_cases bs
  obtain ⟨w1, w2, w3, w4, w5⟩ := whole_cases bs
  have G1 : Hid (markE bs ≠ 0 → unO bs = opt0 ∧ unL bs = [] ∧ unN bs = 0 ∧ unE bs = markE bs) := fun h => by have := f1 (by rw [w1 h]; exact h); rwa [w1 h] at this
  have G2 : Hid (markE bs = 0 → markV bs ≠ 1 → unO bs = opt0 ∧ unL bs = [] ∧ unN bs = 0 ∧ unE bs = 4) := fun h h2 => by have := f1 (by rw [w2 h h2]; decide); rwa [w2 h h2] at this
  have G3 : Hid (markE bs = 0 → markV bs = 1 → cutE bs ≠ 0 → unO bs = opt0 ∧ unL bs = [] ∧ unN bs = 0 ∧ unE bs = cutE bs) := fun h h2 h3 => by have := f1 (by rw [w3 h h2 h3]; exact h3); rwa [w3 h h2 h3] at this
  have G4 : Hid (markE bs = 0 → markV bs = 1 → cutE bs = 0 → (cutO bs).length < 5 → unO bs = opt0 ∧ unL bs = [] ∧ unN bs = 0 ∧ unE bs = 1) := fun h h2 h3 h4 => by have := f1 (by rw [w4 h h2 h3 h4]; decide); rwa [w4 h h2 h3 h4] at this
  have G5 := Lib.hid w5
  have F2 := Lib.hid f2
  have F3 := Lib.hid f3
  have F4 := Lib.hid f4
  clear f1 f2 f3 f4 w1 w2 w3 w4 w5
  have eR : unR bs = logR (wholeO bs) (hN (wholeO bs)) (hM (wholeO bs)) (hA5 (wholeO bs)) := rfl
  rw [eR] at F3 F4
  clear eR
  obtain ⟨hx1, hx2⟩ := whole_small h8
  have hxl : (wholeO bs).length ≤ 100000 := by omega
  unfold CutPost at D2
  unfold UnPost
  have hO8 : ∀ y ∈ cutO bs, y ≤ 255 := by
    unfold cutO
    split
    · exact fun y hy => h8 y (List.mem_of_mem_take hy)
    · simp
  have hOl : (cutO bs).length ≤ 100000 := by
    unfold cutO
    split
    · rw [List.length_take]; omega
    · simp
  generalize unO bs = oo at *
  generalize unL bs = ol at *
  generalize unN bs = on at *
  generalize unE bs = oe at *
  generalize wholeE bs = e0 at *
  generalize wholeO bs = x at *
  generalize cutE bs = ce at *
  generalize cutO bs = y at *
  generalize markE bs = me at *
  generalize markV bs = mv at *
  have HX8 := Lib.hid hx2
  have HXL := Lib.hid hxl
  have HY8 := Lib.hid hO8
  have HYL := Lib.hid hOl
  obtain ⟨j0, hj0, hy0, hy1, hy2⟩ := info_parts info_rec
  have hrb : Blk (w.alloc (.cells #[.int .i64 0, .bool false, .int .i64 0, .int .i64 0, .int .i64 0, .int .i64 0] 25)) w.heap.size 25 #[.int .i64 0, .bool false, .int .i64 0, .int .i64 0, .int .i64 0, .int .i64 0] := Blk.made _ _ _
  have hnb : Blk ((w.alloc (.cells #[.int .i64 0, .bool false, .int .i64 0, .int .i64 0, .int .i64 0, .int .i64 0] 25)).alloc (.cells #[.int .i64 0, .bool false, .int .i64 0, .int .i64 0, .int .i64 0, .int .i64 0] 25)) (w.heap.size + 1) 25 #[.int .i64 0, .bool false, .int .i64 0, .int .i64 0, .int .i64 0, .int .i64 0] := Blk.made_at _ _ _ (by simp)
  have p0 := hnb.cell 0; have p1 := hnb.cell 1; have p2 := hnb.cell 2; have p3 := hnb.cell 3; have p4 := hnb.cell 4; have p5 := hnb.cell 5; simp only [List.getElem?_toArray, List.getElem?_cons_zero, List.getElem?_cons_succ] at p0 p1 p2 p3 p4 p5
  have q0 := hnb.frozen 0; have q1 := hnb.frozen 1; have q2 := hnb.frozen 2; have q3 := hnb.frozen 3; have q4 := hnb.frozen 4; have q5 := hnb.frozen 5
  clear hn hle hcap h8 ha hx1 hx2 hxl hO8 hOl
  go_enter Tryz.func20, Tryz.ntmps20
  go_wp2_with fail
  have hz : Zs w ((w.alloc (.cells #[.int .i64 0, .bool false, .int .i64 0, .int .i64 0, .int .i64 0, .int .i64 0] 25)).alloc (.cells #[.int .i64 0, .bool false, .int .i64 0, .int .i64 0, .int .i64 0, .int .i64 0] 25)) := ⟨hrb.alloc _, hnb, bel_alloc0 (bel_alloc0 (Below.refl _ _))⟩
  generalize ((w.alloc (.cells #[.int .i64 0, .bool false, .int .i64 0, .int .i64 0, .int .i64 0, .int .i64 0] 25)).alloc (.cells #[.int .i64 0, .bool false, .int .i64 0, .int .i64 0, .int .i64 0, .int .i64 0] 25)) = w1 at *
  clear hrb hnb p0 p1 p2 p3 p4 p5 q0 q1 q2 q3 q4 q5
  refine (D1.out _ hz.bl).mono ?_
  rintro e w1' ⟨rfl, rfl⟩
  have HZ := Lib.hid hz
  clear hz D1
  by_cases h0 : me = 0
  · subst h0
    by_cases h1 : mv = 1
    · subst h1
      have E2 := Lib.hid (D2.out _ HZ.out.bl)
      have K3 := Lib.hid (G3.out rfl rfl)
      have K4 := Lib.hid (G4.out rfl rfl)
      have K5 := Lib.hid (G5.out rfl rfl)
      clear G1 G2 G3 G4 G5 D2
      go_wp2_with fail
      refine E2.out.mono ?_
      rintro e w2 ⟨v2, rfl, ho2, hb2⟩
      obtain ⟨Y, cY, rfl⟩ := own_shape ho2
      have HZ2 := Lib.hid (HZ.out.step hb2)
      have HO2 := Lib.hid ho2
      clear E2 HZ ho2 hb2
      by_cases h2 : ce = 0
      · subst h2
        by_cases h3 : y.length < 5
        · obtain ⟨rfl, rfl, rfl, rfl⟩ := K4.out (by first | rfl | trivial) h3
          have g1 : decide ((y.length : Int) < 5) = true := by simp; omega
          have g2 : decide (y.length < 5) = true := by simp; omega
          have HZ := Lib.hid HZ2.out
          clear K3 K4 K5 F2 F3 F4 h3 HZ2
          obtain ⟨wX, rfl⟩ : ∃ wX : World, wX = w2 := ⟨_, rfl⟩
          have B6 := ((((((HZ.out.rb.set 0 (.int .i64 0)).set 1 (.bool false)).set 2 (.int .i64 0)).set 3 (.int .i64 0)).set 4 (.int .i64 0)).set 5 (.int .i64 0))
          have L6 : Below w.heap.size w ((((((wX.setCell ⟨w.heap.size, 0, none⟩ (.int .i64 0)).setCell ⟨w.heap.size, 1, none⟩ (.bool false)).setCell ⟨w.heap.size, 2, none⟩ (.int .i64 0)).setCell ⟨w.heap.size, 3, none⟩ (.int .i64 0)).setCell ⟨w.heap.size, 4, none⟩ (.int .i64 0)).setCell ⟨w.heap.size, 5, none⟩ (.int .i64 0)) := bel_six (Nat.le_refl _) HZ.out.bl _ _
          have j0 := HZ.out.rb.cell 0; have j1 := HZ.out.rb.cell 1; have j2 := HZ.out.rb.cell 2; have j3 := HZ.out.rb.cell 3; have j4 := HZ.out.rb.cell 4; have j5 := HZ.out.rb.cell 5; simp only [List.getElem?_toArray, List.getElem?_cons_zero, List.getElem?_cons_succ] at j0 j1 j2 j3 j4 j5
          have k0 := HZ.out.rb.frozen 0; have k1 := HZ.out.rb.frozen 1; have k2 := HZ.out.rb.frozen 2; have k3 := HZ.out.rb.frozen 3; have k4 := HZ.out.rb.frozen 4; have k5 := HZ.out.rb.frozen 5
          have n0 := HZ.out.nb.cell 0; have n1 := HZ.out.nb.cell 1; have n2 := HZ.out.nb.cell 2; have n3 := HZ.out.nb.cell 3; have n4 := HZ.out.nb.cell 4; have n5 := HZ.out.nb.cell 5; simp only [List.getElem?_toArray, List.getElem?_cons_zero, List.getElem?_cons_succ] at n0 n1 n2 n3 n4 n5
          go_wp2_with fail
          generalize ((((((wX.setCell ⟨w.heap.size, 0, none⟩ (.int .i64 0)).setCell ⟨w.heap.size, 1, none⟩ (.bool false)).setCell ⟨w.heap.size, 2, none⟩ (.int .i64 0)).setCell ⟨w.heap.size, 3, none⟩ (.int .i64 0)).setCell ⟨w.heap.size, 4, none⟩ (.int .i64 0)).setCell ⟨w.heap.size, 5, none⟩ (.int .i64 0)) = w6 at *
          have z0 := B6.cell 0; have z1 := B6.cell 1; have z2 := B6.cell 2; have z3 := B6.cell 3; have z4 := B6.cell 4; have z5 := B6.cell 5; simp only [List.setIfInBounds_toArray, List.set_cons_zero, List.set_cons_succ, List.getElem?_toArray, List.getElem?_cons_zero, List.getElem?_cons_succ] at z0 z1 z2 z3 z4 z5
          refine bodyPost_ret (v := .tuple #[opt0.val, .slice none 0 0, .int .i64 0, .int .i64 _]) ?_ rfl ⟨_, rfl, World.ownsRow_nil _ _ _ _, L6⟩
          simp [results, Tryz.results20, go_sem, z0, z1, z2, z3, z4, z5, Opt.val, opt0]
        · obtain ⟨rfl, hxy⟩ := K5.out (by first | rfl | trivial) h3
          have g1 : decide ((y.length : Int) < 5) = false := by simp; omega
          have g2 : decide (y.length < 5) = false := by simp; omega
          have ks := fun wx => run_cut (P := Tryz.prog) (t := 22) (s := 1) Tryz.underlying22 (fun _ => by kernel_rfl) Y y.length cY .i64 (5 : Int) 5 rfl (by omega) wx
          have HXY := Lib.hid hxy
          have H3 : Hid (5 ≤ y.length) := by show 5 ≤ _; omega
          have hwf := own_wf HO2.out
          have HH : Hid (Held w2 Y cY y) := ⟨own_row HO2.out, hwf.2, hwf.1⟩
          have E3 := Lib.hid (rnew_any w2 (cutA Y 5 cY 1) (y.length - 5) (cY - 5) x (by rw [hxy, List.length_drop]) (by have := HYL.out; omega) (fun e => by have := hwf.1 (cutA_some e); omega) (by have := row_num_drop (own_row HO2.out) (show 5 ≤ y.length by omega) hwf.2; rwa [← hxy] at this))
          obtain ⟨R, hR⟩ : ∃ R, logGo x (hM x) (hA5 x) [] = R := ⟨_, rfl⟩
          obtain ⟨rl, re, ra⟩ := R
          obtain ⟨m1, m2, m3, m4, m5, m6⟩ := rest_cases rfl F2.out F3.out F4.out hR
          have M1 := Lib.hid m1
          have M2 := Lib.hid m2
          have M3 := Lib.hid m3
          have M4 := Lib.hid m4
          have M5 := Lib.hid m5
          have M6 := Lib.hid m6
          have HR := Lib.hid hR
          have P1 : Hid (1 < hP x → hE3 x = failE (hE2 x) 2 ∧ hE5 x ≠ 0) := head_bad
          have P2 : Hid (¬ 1 < hP x → hE3 x = hE2 x) := fun h => if_neg h
          have hp8 : hP x ≤ 255 := byte_le HX8.out _ _
          have hnm : hN x ≤ 20000 := intV_le _ HX8.out _ _
          have hmn : hM x ≤ 20000 := Nat.le_trans (intV_le _ HX8.out _ _) hnm
          have D4 : Hid (∀ wx g B C cc, RCur wx g B x C cc 0 0 → Calls Tryz.prog 67 #[.pointer (some ⟨g, 0, none⟩), .int .i64 32768] wx fun e w' => e = .returned (.int .i64 (intV 32768 x 0 0 : Nat)) ∧ RCur w' g B x C cc (intA 32768 x 0 0) (intE 32768 x 0 0) ∧ Kept (Others g wx) wx w') :=
            fun wx g B C cc h => rint_any wx g B x C cc 0 0 32768 HXL.out HX8.out (by omega) h
          have D5 : Hid (∀ wx g B C cc, RCur wx g B x C cc (intA 32768 x 0 0) (intE 32768 x 0 0) → Calls Tryz.prog 68 #[.pointer (some ⟨g, 0, none⟩)] wx fun e w' => e = .returned (.int .u8 (hP x : Nat)) ∧ RCur w' g B x C cc (hA2 x) (hE2 x) ∧ Kept (Others g wx) wx w') :=
            fun wx g B C cc h => rbyte_any wx g B x C cc _ _ HXL.out h
          have D6 : Hid (∀ wx g B C cc, RCur wx g B x C cc (hA2 x) (hE2 x) → Calls Tryz.prog 69 #[.pointer (some ⟨g, 0, none⟩), .int .i64 2] wx fun e w' => e = .returned (.tuple #[]) ∧ RCur w' g B x C cc (hA2 x) (failE (hE2 x) 2) ∧ Kept (fun x => x ≠ g) wx w') :=
            fun wx g B C cc h => rfail_any wx g B x C cc _ _ 2 h
          have D7 : Hid (∀ wx g B C cc, RCur wx g B x C cc (hA2 x) (hE3 x) → Calls Tryz.prog 67 #[.pointer (some ⟨g, 0, none⟩), .int .i64 20000] wx fun e w' => e = .returned (.int .i64 (hN x : Nat)) ∧ RCur w' g B x C cc (hA4 x) (hE4 x) ∧ Kept (Others g wx) wx w') :=
            fun wx g B C cc h => rint_any wx g B x C cc _ _ 20000 HXL.out HX8.out (by omega) h
          have D8 : Hid (∀ wx g B C cc, RCur wx g B x C cc (hA4 x) (hE4 x) → Calls Tryz.prog 67 #[.pointer (some ⟨g, 0, none⟩), .int .i64 (hN x : Nat)] wx fun e w' => e = .returned (.int .i64 (hM x : Nat)) ∧ RCur w' g B x C cc (hA5 x) (hE5 x) ∧ Kept (Others g wx) wx w') :=
            fun wx g B C cc h => rint_any wx g B x C cc _ _ _ HXL.out HX8.out (by omega) h
          have DO : Hid (hO x = ⟨(intV 32768 x 0 0 : Nat), decide (hP x = 1), 0, 0, 0, 0⟩) := rfl
          clear K3 K4 K5 h3 hxy hwf F2 F3 F4 m1 m2 m3 m4 m5 m6 hR
          generalize hO x = ho at *
          generalize intV 32768 x 0 0 = S at *
          generalize intA 32768 x 0 0 = a1 at *
          generalize intE 32768 x 0 0 = e1 at *
          generalize hP x = p at *
          generalize hA2 x = a2 at *
          generalize hE2 x = e2 at *
          generalize hE3 x = e3 at *
          generalize hN x = N at *
          generalize hA4 x = a4 at *
          generalize hE4 x = e4 at *
          generalize hM x = M at *
          generalize hA5 x = a5 at *
          generalize hE5 x = e5 at *
          go_wp2_with fail
          refine E3.out.mono ?_
          rintro e w3 ⟨g, C, cc, rfl, hc3, hb3⟩
          have z2 := HZ2.out.nb.lt
          have hg3 := hc3.lo
          have hgl := hc3.blk.lt
          have HZ3 := Lib.hid (HZ2.out.step hb3)
          have HY3 : Hid (Row w3 w2.heap.size Y y.length 1 (numF .u8 y)) := HH.out.row.below hb3
          have HC3 := Lib.hid hc3
          have zs3 := hb3.size
          have HWF : Hid (y.length ≤ cY ∧ (Y = none → y.length = 0 ∧ cY = 0)) := ⟨HH.out.cap, HH.out.none⟩
          clear E3 hc3 hb3 HZ2 HO2 HH ks
          have E4 := Lib.hid (D4.out w3 g w2.heap.size C cc HC3.out)
          clear D4
          go_wp2_with fail
          refine E4.out.mono ?_
          rintro e w4 ⟨rfl, hc4, hk4⟩
          have HZ4 := Lib.hid (HZ3.out.kept hk4 (by omega))
          have HY4 := Lib.hid (row_oth HY3.out hk4 zs3 hg3)
          have HC4 := Lib.hid hc4
          have zs4 := hk4.size
          clear E4 hc4 hk4 HZ3 HY3 HC3
          go_wp2_with fail
          have hob : Blk (w4.alloc (.cells #[.int .i64 S, .bool false, .int .i64 0, .int .i64 0, .int .i64 0, .int .i64 0] 25)) w4.heap.size 25 #[.int .i64 S, .bool false, .int .i64 0, .int .i64 0, .int .i64 0, .int .i64 0] := Blk.made _ _ _
          have hb5 : Below w4.heap.size w4 (w4.alloc (.cells #[.int .i64 S, .bool false, .int .i64 0, .int .i64 0, .int .i64 0, .int .i64 0] 25)) := bel_alloc0 (Below.refl _ _)
          generalize w4.alloc (.cells #[.int .i64 S, .bool false, .int .i64 0, .int .i64 0, .int .i64 0, .int .i64 0] 25) = w5 at *
          have zs5 := hob.lt
          have HZ5 := Lib.hid (HZ4.out.step hb5)
          have HY5 : Hid (Row w5 w2.heap.size Y y.length 1 (numF .u8 y)) := HY4.out.below (hb5.mono (by omega))
          have HC5 := Lib.hid (HC4.out.step hb5)
          have HO5 := Lib.hid hob
          have E5 := Lib.hid (D5.out w5 g w2.heap.size C cc HC5.out)
          clear hb5 hob HZ4 HY4 HC4 D5
          refine E5.out.mono ?_
          rintro e w6 ⟨rfl, hc6, hk6⟩
          have HZ6 := Lib.hid (HZ5.out.kept hk6 (by omega))
          have HY6 := Lib.hid (row_oth HY5.out hk6 (by omega) hg3)
          have HO6 := Lib.hid (kept_blk HO5.out hk6 (by omega))
          have zs6 := hk6.size
          have HC6 := Lib.hid hc6
          clear E5 hc6 hk6 HZ5 HY5 HO5 HC5
          by_cases hp : 1 < p
          · obtain ⟨rfl, h5⟩ := P1.out hp
            have gt : decide ((1 : Int) < (p : Int)) = true := by simp; omega
            have gt' : decide (1 < p) = true := by simp; omega
            have gp : ((p : Int) == 1) = false := by rw [beq_eq_false_iff_ne]; omega
            obtain ⟨pl, hpl⟩ : ∃ pl : Bool, false = pl := ⟨_, rfl⟩
            rw [hpl] at gp
            have E6 := Lib.hid (D6.out w6 g w2.heap.size C cc HC6.out)
            obtain ⟨rfl, rfl, rfl, rfl⟩ := M1.out h5
            have g5 : (oe != 0) = true := by simpa using h5
            clear hp h5 P1 P2 D6 M1 M2 M3 M4 M5 M6 hpl
            go_wp2_with fail
            refine E6.out.mono ?_
            rintro e wA ⟨rfl, hcA, hkA'⟩
            have hkA : Kept (Others g w6) w6 wA := ⟨hkA'.os, hkA'.tape, hkA'.output, hkA'.size, fun z hz => hkA'.block z hz.2⟩
            have HZA := Lib.hid (HZ6.out.kept hkA (by omega))
            have HYA := Lib.hid (row_oth HY6.out hkA (by omega) hg3)
            have HOA := Lib.hid (kept_blk HO6.out hkA (by omega))
            have zsA : w4.heap.size < wA.heap.size := by have := hkA.size; omega
            have HCA := Lib.hid hcA
            clear E6 hcA hkA hkA' HZ6 HY6 HO6 HC6
            have q1 := HOA.out.cell 1
            have r1 := HOA.out.frozen 1
            simp only [List.getElem?_toArray, List.getElem?_cons_zero, List.getElem?_cons_succ] at q1
            go_wp2_with fail
            have hoB := HOA.out.set 1 (.bool pl)
            have hcB := rcur_other HCA.out HOA.out (by decide) (by decide) 1 (.bool pl)
            have hzB := HZA.out.set (p := ⟨w4.heap.size, 1, none⟩) (by show _ < w4.heap.size; omega) (.bool pl)
            have hyB := HYA.out.setCell (p := ⟨w4.heap.size, 1, none⟩) (show w2.heap.size ≤ w4.heap.size by omega) (.bool pl)
            have zsB : (wA.setCell ⟨w4.heap.size, 1, none⟩ (.bool pl)).heap.size = wA.heap.size := by simp
            generalize wA.setCell ⟨w4.heap.size, 1, none⟩ (.bool pl) = wB at *
            have zsB' : w4.heap.size < wB.heap.size := by omega
            have E7 := Lib.hid (D7.out wB g w2.heap.size C cc hcB)
            clear zsB zsA q1 r1 HOA HCA HZA HYA hcB D7
            refine E7.out.mono ?_
            rintro e w8 ⟨rfl, hc8, hk8⟩
            have HZ8 := Lib.hid (hzB.kept hk8 (by omega))
            have HY8' := Lib.hid (row_oth hyB hk8 (by omega) hg3)
            have HO8 := Lib.hid (kept_blk hoB hk8 (by omega))
            have zs8 := hk8.size
            have E8 := Lib.hid (D8.out w8 g w2.heap.size C cc hc8)
            clear E7 hc8 hk8 hoB hzB hyB D8
            go_wp2_with fail
            refine E8.out.mono ?_
            rintro e w9 ⟨rfl, hc9, hk9⟩
            have HZ9 := Lib.hid (HZ8.out.kept hk9 (by omega))
            have HY9 := Lib.hid (row_oth HY8'.out hk9 (by omega) hg3)
            have HO9 := Lib.hid (kept_blk HO8.out hk9 (by omega))
            have zs9 := hk9.size
            have cE := hc9.cells.2.2
            have HC9 := Lib.hid hc9
            clear E8 hc9 hk9 HZ8 HY8' HO8
            have HZ := Lib.hid HZ9.out
            clear HZ9 HY9 HO9 HC9
            obtain ⟨wX, rfl⟩ : ∃ wX : World, wX = w9 := ⟨_, rfl⟩
            have B6 := ((((((HZ.out.rb.set 0 (.int .i64 0)).set 1 (.bool false)).set 2 (.int .i64 0)).set 3 (.int .i64 0)).set 4 (.int .i64 0)).set 5 (.int .i64 0))
            have L6 : Below w.heap.size w ((((((wX.setCell ⟨w.heap.size, 0, none⟩ (.int .i64 0)).setCell ⟨w.heap.size, 1, none⟩ (.bool false)).setCell ⟨w.heap.size, 2, none⟩ (.int .i64 0)).setCell ⟨w.heap.size, 3, none⟩ (.int .i64 0)).setCell ⟨w.heap.size, 4, none⟩ (.int .i64 0)).setCell ⟨w.heap.size, 5, none⟩ (.int .i64 0)) := bel_six (Nat.le_refl _) HZ.out.bl _ _
            have j0 := HZ.out.rb.cell 0; have j1 := HZ.out.rb.cell 1; have j2 := HZ.out.rb.cell 2; have j3 := HZ.out.rb.cell 3; have j4 := HZ.out.rb.cell 4; have j5 := HZ.out.rb.cell 5; simp only [List.getElem?_toArray, List.getElem?_cons_zero, List.getElem?_cons_succ] at j0 j1 j2 j3 j4 j5
            have k0 := HZ.out.rb.frozen 0; have k1 := HZ.out.rb.frozen 1; have k2 := HZ.out.rb.frozen 2; have k3 := HZ.out.rb.frozen 3; have k4 := HZ.out.rb.frozen 4; have k5 := HZ.out.rb.frozen 5
            have n0 := HZ.out.nb.cell 0; have n1 := HZ.out.nb.cell 1; have n2 := HZ.out.nb.cell 2; have n3 := HZ.out.nb.cell 3; have n4 := HZ.out.nb.cell 4; have n5 := HZ.out.nb.cell 5; simp only [List.getElem?_toArray, List.getElem?_cons_zero, List.getElem?_cons_succ] at n0 n1 n2 n3 n4 n5
            go_wp2_with fail
            go_region
            generalize ((((((wX.setCell ⟨w.heap.size, 0, none⟩ (.int .i64 0)).setCell ⟨w.heap.size, 1, none⟩ (.bool false)).setCell ⟨w.heap.size, 2, none⟩ (.int .i64 0)).setCell ⟨w.heap.size, 3, none⟩ (.int .i64 0)).setCell ⟨w.heap.size, 4, none⟩ (.int .i64 0)).setCell ⟨w.heap.size, 5, none⟩ (.int .i64 0)) = w6 at *
            go_wp2_with fail
            have B7 := B6.drew
            have z0 := B7.cell 0; have z1 := B7.cell 1; have z2 := B7.cell 2; have z3 := B7.cell 3; have z4 := B7.cell 4; have z5 := B7.cell 5; simp only [List.setIfInBounds_toArray, List.set_cons_zero, List.set_cons_succ, List.getElem?_toArray, List.getElem?_cons_zero, List.getElem?_cons_succ] at z0 z1 z2 z3 z4 z5
            refine bodyPost_ret (v := .tuple #[opt0.val, .slice none 0 0, .int .i64 0, .int .i64 _]) ?_ rfl ⟨_, rfl, World.ownsRow_nil _ _ _ _, L6.drew⟩
            simp [results, Tryz.results20, go_sem, z0, z1, z2, z3, z4, z5, Opt.val, opt0]
          · have he3 := P2.out hp
            subst he3
            have gt : decide ((1 : Int) < (p : Int)) = false := by simp; omega
            have gt' : decide (1 < p) = false := by simp; omega
            obtain ⟨pl, hpl⟩ : ∃ pl : Bool, decide (p = 1) = pl := ⟨_, rfl⟩
            have gp : ((p : Int) == 1) = pl := by
              rw [← hpl]
              by_cases h : p = 1
              · subst h; rfl
              · rw [decide_eq_false h, beq_eq_false_iff_ne]; omega
            have DO2 := DO.out
            rw [hpl] at DO2
            subst DO2
            have HZA := Lib.hid HZ6.out
            have HYA := Lib.hid HY6.out
            have HOA := Lib.hid HO6.out
            have zsA : w4.heap.size < w6.heap.size := by omega
            have HCA := Lib.hid HC6.out
            clear hp P1 P2 D6 hpl HZ6 HY6 HO6 HC6 DO
            obtain ⟨wA, rfl⟩ : ∃ wA : World, wA = w6 := ⟨_, rfl⟩
            have q1 := HOA.out.cell 1
            have r1 := HOA.out.frozen 1
            simp only [List.getElem?_toArray, List.getElem?_cons_zero, List.getElem?_cons_succ] at q1
            go_wp2_with fail
            have hoB := HOA.out.set 1 (.bool pl)
            have hcB := rcur_other HCA.out HOA.out (by decide) (by decide) 1 (.bool pl)
            have hzB := HZA.out.set (p := ⟨w4.heap.size, 1, none⟩) (by show _ < w4.heap.size; omega) (.bool pl)
            have hyB := HYA.out.setCell (p := ⟨w4.heap.size, 1, none⟩) (show w2.heap.size ≤ w4.heap.size by omega) (.bool pl)
            have zsB : (wA.setCell ⟨w4.heap.size, 1, none⟩ (.bool pl)).heap.size = wA.heap.size := by simp
            generalize wA.setCell ⟨w4.heap.size, 1, none⟩ (.bool pl) = wB at *
            have zsB' : w4.heap.size < wB.heap.size := by omega
            have E7 := Lib.hid (D7.out wB g w2.heap.size C cc hcB)
            clear zsB zsA q1 r1 HOA HCA HZA HYA hcB D7
            refine E7.out.mono ?_
            rintro e w8 ⟨rfl, hc8, hk8⟩
            have HZ8 := Lib.hid (hzB.kept hk8 (by omega))
            have HY8' := Lib.hid (row_oth hyB hk8 (by omega) hg3)
            have HO8 := Lib.hid (kept_blk hoB hk8 (by omega))
            have zs8 := hk8.size
            have E8 := Lib.hid (D8.out w8 g w2.heap.size C cc hc8)
            clear E7 hc8 hk8 hoB hzB hyB D8
            go_wp2_with fail
            refine E8.out.mono ?_
            rintro e w9 ⟨rfl, hc9, hk9⟩
            have HZ9 := Lib.hid (HZ8.out.kept hk9 (by omega))
            have HY9 := Lib.hid (row_oth HY8'.out hk9 (by omega) hg3)
            have HO9 := Lib.hid (kept_blk HO8.out hk9 (by omega))
            have zs9 := hk9.size
            have cE := hc9.cells.2.2
            have HC9 := Lib.hid hc9
            clear E8 hc9 hk9 HZ8 HY8' HO8
            by_cases h5 : e5 = 0
            · subst h5
              have N2 := Lib.hid (M2.out rfl)
              have N3 := Lib.hid (M3.out rfl)
              have N4 := Lib.hid (M4.out rfl)
              have N5 := Lib.hid (M5.out rfl)
              have N6 := Lib.hid (M6.out rfl)
              have E9 := Lib.hid (rocheck_any w9 ⟨(S : Nat), pl, 0, 0, 0, 0⟩)
              unfold Opt.val at E9
              simp only at E9
              have o0 := HO9.out.cell 0; have o1 := HO9.out.cell 1; have o2 := HO9.out.cell 2; have o3 := HO9.out.cell 3; have o4 := HO9.out.cell 4; have o5 := HO9.out.cell 5; simp only [List.setIfInBounds_toArray, List.set_cons_zero, List.set_cons_succ, List.getElem?_toArray, List.getElem?_cons_zero, List.getElem?_cons_succ] at o0 o1 o2 o3 o4 o5
              clear M1 M2 M3 M4 M5 M6
              by_cases hE : optE ⟨(S : Nat), pl, 0, 0, 0, 0⟩ = 0
              · rw [hE] at E9
                have O3 := Lib.hid (N3.out hE)
                have O4 := Lib.hid (N4.out hE)
                have O5 := Lib.hid (N5.out hE)
                have O6 := Lib.hid (N6.out hE)
                clear hE N2 N3 N4 N5 N6
                go_wp2_with fail
                refine E9.out.mono ?_
                rintro e wT ⟨rfl, hbT⟩
                have HZT := Lib.hid (HZ9.out.step hbT)
                have HYT : Hid (Row wT w2.heap.size Y y.length 1 (numF .u8 y)) := HY9.out.below (hbT.mono (by omega))
                have HOT := Lib.hid (HO9.out.step hbT)
                have HCT := Lib.hid (HC9.out.step hbT)
                have zsT : w2.heap.size ≤ wT.heap.size := by have := hbT.size; omega
                have hgT : g < wT.heap.size := HCT.out.blk.lt
                clear E9 hbT HZ9 HY9 HO9 HC9 cE o0 o1 o2 o3 o4 o5
                go_wp2_with fail
                go_loopw [15, 16] (fun v i wr => ∃ (k at_ : Nat) (acc : List Rec), i = .int .i64 k ∧ k ≤ M ∧ acc.length ≤ k * 100000 ∧ Hid (logGo x (M - k) at_ acc = (rl, re, ra)) ∧ Hid (wr.ownsRow wT.heap.size 77 4 v acc.length (recL acc)) ∧ Hid (RCur wr g w2.heap.size x C cc at_ 0) ∧ Hid (Kept (Others g wT) wT wr)) (fun _ i _ => M - (intOf i).toNat)
                case atStart => exact ⟨0, a5, [], rfl, by omega, by simp, HR.out, World.ownsRow_nil _ _ _ _, HCT.out, Kept.refl _ _⟩
                case round =>
                  obtain ⟨k, at_, acc, rfl, hk, hacc, HG, HO, HC, HK⟩ := hrel
                  have hat := HC.out.le
                  obtain ⟨w0, rfl⟩ : ∃ w0 : World, w0 = wr := ⟨_, rfl⟩
                  have HZ0 := Lib.hid (HZT.out.kept HK.out (by omega))
                  have zs0 := HK.out.size
                  have HZT0 := Lib.hid HZT.out
                  clear HZT HCT
                  by_cases hlt : k < M
                  · have gk : decide ((k : Int) < (M : Int)) = true := by simp; omega
                    have gk' : decide (k < M) = true := by simp; omega
                    have t2 : IntKind.i64.wrap ((k : Int) + 1) = ((k + 1 : Nat) : Int) := by rw [IntWalk.i64_in _ (by omega)]; omega
                    have hyl := HYL.out
                    have h35 := H3.out
                    have hxl2 : x.length = y.length - 5 := by rw [HXY.out, List.length_drop]
                    have t5 : IntKind.i64.wrap (5 + (at_ : Int)) = ((5 + at_ : Nat) : Int) := by rw [IntWalk.i64_in _ (by omega)]; omega
                    have c1 := HC.out.cells.2.1
                    have HY0 := Lib.hid (row_oth HYT.out HK.out zsT hg3)
                    have hH : Held w0 Y cY y := ⟨HY0.out.mono (by omega), HWF.out.1, HWF.out.2⟩
                    have hH5 := hH.cut (k := 5 + at_) (by omega)
                    have ed : y.drop (5 + at_) = x.drop at_ := by rw [HXY.out, List.drop_drop]
                    rw [ed] at hH5
                    have el : (x.drop at_).length = y.length - (5 + at_) := by rw [List.length_drop]; omega
                    have ks := fun wx => run_cut (P := Tryz.prog) (t := 22) (s := 1) Tryz.underlying22 (fun _ => by kernel_rfl) Y y.length cY .i64 ((5 + at_ : Nat) : Int) (5 + at_) rfl (by omega) wx
                    have hx8 : ∀ z ∈ x.drop at_, z ≤ 255 := fun z hz => HX8.out z (List.mem_of_mem_drop hz)
                    have hcapE := hH5.cap
                    have hnoneE := hH5.none
                    have hrowE := hH5.row
                    rw [el] at hcapE hnoneE hrowE
                    have E1 := Lib.hid (rread12_any w0 (cutA Y (5 + at_) cY 1) (y.length - (5 + at_)) (cY - (5 + at_)) (x.drop at_) el (by omega) hcapE hnoneE (fun h0 a e => (row_head5 hrowE h0 a e).1) hx8 hrowE)
                    unfold ReadPost at E1
                    have hbl := blkO_len hx8
                    have hob := op_bounds hx8
                    have hol := opO_le hx8
                    have ho8 := opO_u8 hx8
                    rw [el] at hbl hob hol
                    obtain ⟨m, hm⟩ : ∃ m, M - k = m + 1 := ⟨M - k - 1, by omega⟩
                    have hm1 : M - (k + 1) = m := by omega
                    have hG := HG.out
                    rw [hm, logGo] at hG
                    obtain ⟨b1, b2, b3, b4⟩ := blk_cases (x.drop at_)
                    have b1 := Lib.hid b1
                    have b2 := Lib.hid b2
                    have b3 := Lib.hid b3
                    have b4 := Lib.hid b4
                    have HG3 := Lib.hid hG
                    have HM1 := Lib.hid hm1
                    have HOB := Lib.hid hob
                    have HO8 := Lib.hid ho8
                    have bl2 : (blkO (x.drop at_)).length ≤ 100000 := by omega
                    have HOL : Hid ((opO (x.drop at_)).length ≤ 100000) := by show _ ≤ _; omega
                    clear hm hm1 hG hH hH5 ed el hcapE hnoneE hrowE hx8 hbl hob hol ho8 HG hxl2 hyl h35
                    generalize hf5 : 5 + at_ = f5 at *
                    have HF5 := Lib.hid hf5
                    generalize cutA Y f5 cY 1 = Y5 at *
                    generalize cY - f5 = c5 at *
                    generalize hn5 : y.length - f5 = n5 at *
                    have HN5 := Lib.hid hn5
                    clear hf5 hn5
                    generalize x.drop at_ = z at *
                    generalize blkE z = be at *
                    generalize blkO z = bo at *
                    generalize opA z = oa at *
                    generalize opE z = pe at *
                    generalize opO z = po at *
                    go_wp2_with fail
                    refine E1.out.mono ?_
                    rintro e w1 ⟨v, rfl, ho1, hb1⟩
                    obtain ⟨A1, cA1, rfl⟩ := own_shape ho1
                    have HZ1 := Lib.hid (HZ0.out.step hb1)
                    have HO1 := Lib.hid ho1
                    have HB1 := Lib.hid hb1
                    have HC1 := Lib.hid (HC.out.step hb1)
                    have zs1 := hb1.size
                    clear ho1 hb1 E1 ks c1 HZ0 HC HY0
                    by_cases hpe : pe = 0
                    · have hob := HOB.out hpe
                      have hf5 := HF5.out
                      have hn5 := HN5.out
                      have hxl3 : x.length = y.length - 5 := by rw [HXY.out, List.length_drop]
                      have hxL := HXL.out
                      have hEA : takeA x at_ 0 oa = at_ + oa := (takeA0 _ _ _).trans (if_neg (by omega))
                      have hEE : takeE x at_ 0 oa = 0 := (takeE0 _ _ _).trans (if_neg (by omega))
                      have DT := Lib.hid (rtake_any w1 g w2.heap.size x C cc at_ 0 oa HXL.out (by omega) HC1.out)
                      unfold RTakePost at DT
                      rw [hEA, hEE] at DT
                      have B2 := Lib.hid (b2.out hpe)
                      have B3 := Lib.hid (b3.out hpe)
                      have B4 := Lib.hid (b4.out hpe)
                      have hoa : oa ≤ 100000 := by omega
                      have G1 : (pe != 0) = false := by simp [hpe]
                      clear hob hf5 hn5 hxl3 hxL hEA hEE b1 b2 b3 b4 HOB hpe
                      go_wp2_with fail
                      refine DT.out.mono ?_
                      rintro e wD ⟨vt, rfl, hownt, hc2, hk2⟩
                      have HO2 : Hid (wD.ownsRow w0.heap.size 5 1 (.slice A1 po.length cA1) po.length (numL .u8 po)) := own_kept HO1.out (fun q hq => hk2.block q ⟨(World.ownsRow.lt HO1.out q hq).2, by have := (World.ownsRow.lt HO1.out q hq).1; omega⟩)
                      have DR := Lib.hid (rrecsread_any wD A1 po.length cA1 po rfl HOL.out HO8.out (own_none HO2.out) (own_row HO2.out))
                      unfold RecsPost at DR
                      have HCD := Lib.hid hc2
                      have HZD := Lib.hid (HZ1.out.kept hk2 (by omega))
                      have HKD : Hid (Kept (Others g wT) wT wD) := oth_trans (oth_below HK.out HB1.out) hk2
                      have HAD : Hid (wD.ownsRow wT.heap.size 77 4 u15 acc.length (recL acc)) := own_kept HO.out (fun q hq => (hk2.block q ⟨Nat.lt_of_lt_of_le (World.ownsRow.lt HO.out q hq).2 zs1, by have := (World.ownsRow.lt HO.out q hq).1; omega⟩).trans (HB1.out.block q (World.ownsRow.lt HO.out q hq).2))
                      have zsD := hk2.size
                      generalize readRecs po = R at *
                      obtain ⟨ql, qe⟩ := R
                      simp only at DR B2 B3 B4
                      clear hownt hc2 hk2 DT HO1 HO2 HC1 HO HK HB1 HZ1 HOL HO8
                      generalize po.length = pl2 at *
                      by_cases hre : qe = 0
                      · subst hre
                        by_cases hl : ql.length = 0
                        · obtain ⟨rfl, rfl⟩ := B3.out rfl hl
                          have hR := HG3.out
                          rw [if_pos (by decide)] at hR
                          simp only [Prod.mk.injEq] at hR
                          obtain ⟨_, e2, _⟩ := hR
                          subst e2
                          obtain ⟨rfl, rfl, rfl, rfl⟩ := O3.out (by decide)
                          rw [hl] at DR
                          clear B2 B3 B4 HG3 O3 O4 O5 O6 hl
                          go_wp2_with fail
                          refine DR.out.mono ?_
                          rintro e wX ⟨v3, rfl, hown3, hb3⟩
                          obtain ⟨A3, c3, rfl⟩ := own_shape hown3
                          have HZ := Lib.hid (HZD.out.step hb3)
                          clear hown3 hb3 DR HZD HCD HKD HAD
                          have B6 := ((((((HZ.out.rb.set 0 (.int .i64 0)).set 1 (.bool false)).set 2 (.int .i64 0)).set 3 (.int .i64 0)).set 4 (.int .i64 0)).set 5 (.int .i64 0))
                          have L6 : Below w.heap.size w ((((((wX.setCell ⟨w.heap.size, 0, none⟩ (.int .i64 0)).setCell ⟨w.heap.size, 1, none⟩ (.bool false)).setCell ⟨w.heap.size, 2, none⟩ (.int .i64 0)).setCell ⟨w.heap.size, 3, none⟩ (.int .i64 0)).setCell ⟨w.heap.size, 4, none⟩ (.int .i64 0)).setCell ⟨w.heap.size, 5, none⟩ (.int .i64 0)) := bel_six (Nat.le_refl _) HZ.out.bl _ _
                          have j0 := HZ.out.rb.cell 0; have j1 := HZ.out.rb.cell 1; have j2 := HZ.out.rb.cell 2; have j3 := HZ.out.rb.cell 3; have j4 := HZ.out.rb.cell 4; have j5 := HZ.out.rb.cell 5; simp only [List.getElem?_toArray, List.getElem?_cons_zero, List.getElem?_cons_succ] at j0 j1 j2 j3 j4 j5
                          have k0 := HZ.out.rb.frozen 0; have k1 := HZ.out.rb.frozen 1; have k2 := HZ.out.rb.frozen 2; have k3 := HZ.out.rb.frozen 3; have k4 := HZ.out.rb.frozen 4; have k5 := HZ.out.rb.frozen 5
                          have n0 := HZ.out.nb.cell 0; have n1 := HZ.out.nb.cell 1; have n2 := HZ.out.nb.cell 2; have n3 := HZ.out.nb.cell 3; have n4 := HZ.out.nb.cell 4; have n5 := HZ.out.nb.cell 5; simp only [List.getElem?_toArray, List.getElem?_cons_zero, List.getElem?_cons_succ] at n0 n1 n2 n3 n4 n5
                          go_wp2_with fail
                          generalize ((((((wX.setCell ⟨w.heap.size, 0, none⟩ (.int .i64 0)).setCell ⟨w.heap.size, 1, none⟩ (.bool false)).setCell ⟨w.heap.size, 2, none⟩ (.int .i64 0)).setCell ⟨w.heap.size, 3, none⟩ (.int .i64 0)).setCell ⟨w.heap.size, 4, none⟩ (.int .i64 0)).setCell ⟨w.heap.size, 5, none⟩ (.int .i64 0)) = w6 at *
                          have z0 := B6.cell 0; have z1 := B6.cell 1; have z2 := B6.cell 2; have z3 := B6.cell 3; have z4 := B6.cell 4; have z5 := B6.cell 5; simp only [List.setIfInBounds_toArray, List.set_cons_zero, List.set_cons_succ, List.getElem?_toArray, List.getElem?_cons_zero, List.getElem?_cons_succ] at z0 z1 z2 z3 z4 z5
                          refine bodyPost_ret (v := .tuple #[opt0.val, .slice none 0 0, .int .i64 0, .int .i64 _]) ?_ rfl ⟨_, rfl, World.ownsRow_nil _ _ _ _, L6⟩
                          simp [results, Tryz.results20, go_sem, z0, z1, z2, z3, z4, z5, Opt.val, opt0]
                        · obtain ⟨rfl, rfl⟩ := B4.out rfl hl
                          have hR := HG3.out
                          rw [if_neg (by simp)] at hR
                          have HG2 := Lib.hid hR
                          have G2 : (((bo.length : Nat) : Int) == 0) = false := beq_eq_false_iff_ne.2 (by omega)
                          have G4 : decide (bo = []) = false := by simp; intro h; simp [h] at hl
                          have G5 : decide (bo.length = 0) = false := by simp; intro h; simp [h] at hl
                          clear B2 B3 B4 HG3 hl hR
                          go_wp2_with fail
                          refine DR.out.mono ?_
                          rintro e wE ⟨v3, rfl, hown3, hb3⟩
                          obtain ⟨A3, c3, rfl⟩ := own_shape hown3
                          obtain ⟨A2, c2, rfl⟩ := own_shape HAD.out
                          have HZE := Lib.hid (HZD.out.step hb3)
                          have HO3 := Lib.hid hown3
                          have HCE := Lib.hid (HCD.out.step hb3)
                          have HKE := Lib.hid (oth_below HKD.out hb3)
                          have HAE : Hid (wE.ownsRow wT.heap.size 77 4 (.slice A2 acc.length c2) acc.length (recL acc)) := own_kept HAD.out (fun q hq => hb3.block q (World.ownsRow.lt HAD.out q hq).2)
                          have zsE := hb3.size
                          clear hown3 hb3 DR HZD HCD HKD HAD
                          go_wp2_with (at_builtin; refine wpList_app rfl (.tmp 118) (.tmp 119) 26 rfl wT.heap.size 77 j0 _ 4 48 Tryz.underlying26 hj0 hy0 hy1 hy2 rfl (by decide) (.slice A2 acc.length c2) acc.length (recL acc) (by rfl) HAE.out A3 bo.length c3 (recL bo) (by rfl) (src_own2 HO3.out) (one_recL bo) (by unfold maxLen; omega) (by omega) (by omega) ?_; intro v5 w5 hown5 hg5 hat5)
                          have hc5 : RCur w5 g w2.heap.size x C cc (at_ + oa) 0 :=
                            ⟨HCE.out.blk.grown hg5 (fun e => own_blk HAE.out HCE.out.blk (by decide) e.symm), own_grown HCE.out.own HAE.out (by decide) hg5, HCE.out.le, HCE.out.lo⟩
                          have hk5 : Kept (Others g wT) wT w5 := HKE.out.grown hg5 (fun b h => by have := h.1; omega) (fun b hb hh => by have := (World.ownsRow.lt HAE.out b hb).1; have := hh.1; omega)
                          go_roundw
                          case measure => go_light; simp [intOf]; omega
                          case rel =>
                            go_light
                            refine ⟨k + 1, at_ + oa, acc ++ bo, by first | rfl | go_num, by omega, by rw [List.length_append]; omega, by rw [HM1.out]; exact HG2.out, ?_, hc5, hk5⟩
                            rw [recL_app, List.length_append]
                            exact hown5
                      · obtain ⟨rfl, rfl⟩ := B2.out hre
                        have hR := HG3.out
                        rw [if_pos hre] at hR
                        simp only [Prod.mk.injEq] at hR
                        obtain ⟨_, e2, _⟩ := hR
                        subst e2
                        obtain ⟨rfl, rfl, rfl, rfl⟩ := O3.out hre
                        have G2 : (oe != 0) = true := by simpa using hre
                        clear B2 B3 B4 HG3 O3 O4 O5 O6 hre
                        go_wp2_with fail
                        refine DR.out.mono ?_
                        rintro e wX ⟨v3, rfl, hown3, hb3⟩
                        obtain ⟨A3, c3, rfl⟩ := own_shape hown3
                        have HZ := Lib.hid (HZD.out.step hb3)
                        clear hown3 hb3 DR HZD HCD HKD HAD
                        have B6 := ((((((HZ.out.rb.set 0 (.int .i64 0)).set 1 (.bool false)).set 2 (.int .i64 0)).set 3 (.int .i64 0)).set 4 (.int .i64 0)).set 5 (.int .i64 0))
                        have L6 : Below w.heap.size w ((((((wX.setCell ⟨w.heap.size, 0, none⟩ (.int .i64 0)).setCell ⟨w.heap.size, 1, none⟩ (.bool false)).setCell ⟨w.heap.size, 2, none⟩ (.int .i64 0)).setCell ⟨w.heap.size, 3, none⟩ (.int .i64 0)).setCell ⟨w.heap.size, 4, none⟩ (.int .i64 0)).setCell ⟨w.heap.size, 5, none⟩ (.int .i64 0)) := bel_six (Nat.le_refl _) HZ.out.bl _ _
                        have j0 := HZ.out.rb.cell 0; have j1 := HZ.out.rb.cell 1; have j2 := HZ.out.rb.cell 2; have j3 := HZ.out.rb.cell 3; have j4 := HZ.out.rb.cell 4; have j5 := HZ.out.rb.cell 5; simp only [List.getElem?_toArray, List.getElem?_cons_zero, List.getElem?_cons_succ] at j0 j1 j2 j3 j4 j5
                        have k0 := HZ.out.rb.frozen 0; have k1 := HZ.out.rb.frozen 1; have k2 := HZ.out.rb.frozen 2; have k3 := HZ.out.rb.frozen 3; have k4 := HZ.out.rb.frozen 4; have k5 := HZ.out.rb.frozen 5
                        have n0 := HZ.out.nb.cell 0; have n1 := HZ.out.nb.cell 1; have n2 := HZ.out.nb.cell 2; have n3 := HZ.out.nb.cell 3; have n4 := HZ.out.nb.cell 4; have n5 := HZ.out.nb.cell 5; simp only [List.getElem?_toArray, List.getElem?_cons_zero, List.getElem?_cons_succ] at n0 n1 n2 n3 n4 n5
                        go_wp2_with fail
                        generalize ((((((wX.setCell ⟨w.heap.size, 0, none⟩ (.int .i64 0)).setCell ⟨w.heap.size, 1, none⟩ (.bool false)).setCell ⟨w.heap.size, 2, none⟩ (.int .i64 0)).setCell ⟨w.heap.size, 3, none⟩ (.int .i64 0)).setCell ⟨w.heap.size, 4, none⟩ (.int .i64 0)).setCell ⟨w.heap.size, 5, none⟩ (.int .i64 0)) = w6 at *
                        have z0 := B6.cell 0; have z1 := B6.cell 1; have z2 := B6.cell 2; have z3 := B6.cell 3; have z4 := B6.cell 4; have z5 := B6.cell 5; simp only [List.setIfInBounds_toArray, List.set_cons_zero, List.set_cons_succ, List.getElem?_toArray, List.getElem?_cons_zero, List.getElem?_cons_succ] at z0 z1 z2 z3 z4 z5
                        refine bodyPost_ret (v := .tuple #[opt0.val, .slice none 0 0, .int .i64 0, .int .i64 _]) ?_ rfl ⟨_, rfl, World.ownsRow_nil _ _ _ _, L6⟩
                        simp [results, Tryz.results20, go_sem, z0, z1, z2, z3, z4, z5, Opt.val, opt0]
                    · obtain ⟨rfl, rfl⟩ := b1.out hpe
                      have hR := HG3.out
                      rw [if_pos hpe] at hR
                      simp only [Prod.mk.injEq] at hR
                      obtain ⟨_, e2, _⟩ := hR
                      subst e2
                      obtain ⟨rfl, rfl, rfl, rfl⟩ := O3.out hpe
                      have g5 : (oe != 0) = true := by simpa using hpe
                      have HZ := Lib.hid HZ1.out
                      clear b1 b2 b3 b4 HG3 O3 O4 O5 O6 hpe HOB
                      obtain ⟨wX, rfl⟩ : ∃ wX : World, wX = w1 := ⟨_, rfl⟩
                      have B6 := ((((((HZ.out.rb.set 0 (.int .i64 0)).set 1 (.bool false)).set 2 (.int .i64 0)).set 3 (.int .i64 0)).set 4 (.int .i64 0)).set 5 (.int .i64 0))
                      have L6 : Below w.heap.size w ((((((wX.setCell ⟨w.heap.size, 0, none⟩ (.int .i64 0)).setCell ⟨w.heap.size, 1, none⟩ (.bool false)).setCell ⟨w.heap.size, 2, none⟩ (.int .i64 0)).setCell ⟨w.heap.size, 3, none⟩ (.int .i64 0)).setCell ⟨w.heap.size, 4, none⟩ (.int .i64 0)).setCell ⟨w.heap.size, 5, none⟩ (.int .i64 0)) := bel_six (Nat.le_refl _) HZ.out.bl _ _
                      have j0 := HZ.out.rb.cell 0; have j1 := HZ.out.rb.cell 1; have j2 := HZ.out.rb.cell 2; have j3 := HZ.out.rb.cell 3; have j4 := HZ.out.rb.cell 4; have j5 := HZ.out.rb.cell 5; simp only [List.getElem?_toArray, List.getElem?_cons_zero, List.getElem?_cons_succ] at j0 j1 j2 j3 j4 j5
                      have k0 := HZ.out.rb.frozen 0; have k1 := HZ.out.rb.frozen 1; have k2 := HZ.out.rb.frozen 2; have k3 := HZ.out.rb.frozen 3; have k4 := HZ.out.rb.frozen 4; have k5 := HZ.out.rb.frozen 5
                      have n0 := HZ.out.nb.cell 0; have n1 := HZ.out.nb.cell 1; have n2 := HZ.out.nb.cell 2; have n3 := HZ.out.nb.cell 3; have n4 := HZ.out.nb.cell 4; have n5 := HZ.out.nb.cell 5; simp only [List.getElem?_toArray, List.getElem?_cons_zero, List.getElem?_cons_succ] at n0 n1 n2 n3 n4 n5
                      go_wp2_with fail
                      generalize ((((((wX.setCell ⟨w.heap.size, 0, none⟩ (.int .i64 0)).setCell ⟨w.heap.size, 1, none⟩ (.bool false)).setCell ⟨w.heap.size, 2, none⟩ (.int .i64 0)).setCell ⟨w.heap.size, 3, none⟩ (.int .i64 0)).setCell ⟨w.heap.size, 4, none⟩ (.int .i64 0)).setCell ⟨w.heap.size, 5, none⟩ (.int .i64 0)) = w6 at *
                      have z0 := B6.cell 0; have z1 := B6.cell 1; have z2 := B6.cell 2; have z3 := B6.cell 3; have z4 := B6.cell 4; have z5 := B6.cell 5; simp only [List.setIfInBounds_toArray, List.set_cons_zero, List.set_cons_succ, List.getElem?_toArray, List.getElem?_cons_zero, List.getElem?_cons_succ] at z0 z1 z2 z3 z4 z5
                      refine bodyPost_ret (v := .tuple #[opt0.val, .slice none 0 0, .int .i64 0, .int .i64 _]) ?_ rfl ⟨_, rfl, World.ownsRow_nil _ _ _ _, L6⟩
                      simp [results, Tryz.results20, go_sem, z0, z1, z2, z3, z4, z5, Opt.val, opt0]
                  · obtain rfl : k = M := by omega
                    have gk : decide ((k : Int) < (k : Int)) = false := by simp
                    have gk' : decide (k < k) = false := by simp
                    have hG := HG.out
                    rw [Nat.sub_self, logGo] at hG
                    simp only [Prod.mk.injEq] at hG
                    obtain ⟨rfl, rfl, rfl⟩ := hG
                    have HOE := Lib.hid (kept_blk HOT.out HK.out (by omega))
                    have E1 := Lib.hid (rleft_any w0 g w2.heap.size x C cc at_ 0 HXL.out HC.out)
                    obtain ⟨A2, c2, rfl⟩ := own_shape HO.out
                    have hrow := own_recs HO.out
                    have E2 := Lib.hid (fun q => refcheck_any (w0.drewN q) A2 acc.length c2 acc rfl (by omega) (hrow.drewN q))
                    have O4 := Lib.hid (O4.out rfl)
                    have O5 := Lib.hid (O5.out rfl)
                    have O6 := Lib.hid (O6.out rfl)
                    have hxL := HXL.out
                    have hlf : x.length - at_ ≤ 100000 := by omega
                    have HBW : Hid (w.heap.size ≤ wT.heap.size) := Nat.le_trans HZT0.out.bl.size (Nat.le_refl _)
                    generalize x.length - at_ = lf at *
                    clear HG O3 hrow hat hxL HOT HYT HC HK HR
                    by_cases h1 : 0 < lf
                    · obtain ⟨rfl, rfl, rfl, rfl⟩ := O4.out (.inl h1)
                      have G1 : decide ((0 : Int) < (lf : Int)) = true := by simp; omega
                      have G2 : decide (0 < lf) = true := by simp; omega
                      clear O4 O5 O6 E2 h1
                      go_wp2_with fail
                      refine E1.out.mono ?_
                      rintro e wX ⟨rfl, q, rfl⟩
                      have HZ := Lib.hid (HZ0.out.drewN q)
                      clear E1 HZ0
                      obtain ⟨wX, hwX⟩ : ∃ wX : World, wX = w0.drewN q := ⟨_, rfl⟩
                      rw [← hwX] at HZ ⊢
                      clear hwX
                      have B6 := ((((((HZ.out.rb.set 0 (.int .i64 0)).set 1 (.bool false)).set 2 (.int .i64 0)).set 3 (.int .i64 0)).set 4 (.int .i64 0)).set 5 (.int .i64 0))
                      have L6 : Below w.heap.size w ((((((wX.setCell ⟨w.heap.size, 0, none⟩ (.int .i64 0)).setCell ⟨w.heap.size, 1, none⟩ (.bool false)).setCell ⟨w.heap.size, 2, none⟩ (.int .i64 0)).setCell ⟨w.heap.size, 3, none⟩ (.int .i64 0)).setCell ⟨w.heap.size, 4, none⟩ (.int .i64 0)).setCell ⟨w.heap.size, 5, none⟩ (.int .i64 0)) := bel_six (Nat.le_refl _) HZ.out.bl _ _
                      have j0 := HZ.out.rb.cell 0; have j1 := HZ.out.rb.cell 1; have j2 := HZ.out.rb.cell 2; have j3 := HZ.out.rb.cell 3; have j4 := HZ.out.rb.cell 4; have j5 := HZ.out.rb.cell 5; simp only [List.getElem?_toArray, List.getElem?_cons_zero, List.getElem?_cons_succ] at j0 j1 j2 j3 j4 j5
                      have k0 := HZ.out.rb.frozen 0; have k1 := HZ.out.rb.frozen 1; have k2 := HZ.out.rb.frozen 2; have k3 := HZ.out.rb.frozen 3; have k4 := HZ.out.rb.frozen 4; have k5 := HZ.out.rb.frozen 5
                      have n0 := HZ.out.nb.cell 0; have n1 := HZ.out.nb.cell 1; have n2 := HZ.out.nb.cell 2; have n3 := HZ.out.nb.cell 3; have n4 := HZ.out.nb.cell 4; have n5 := HZ.out.nb.cell 5; simp only [List.getElem?_toArray, List.getElem?_cons_zero, List.getElem?_cons_succ] at n0 n1 n2 n3 n4 n5
                      go_wp2_with fail
                      generalize ((((((wX.setCell ⟨w.heap.size, 0, none⟩ (.int .i64 0)).setCell ⟨w.heap.size, 1, none⟩ (.bool false)).setCell ⟨w.heap.size, 2, none⟩ (.int .i64 0)).setCell ⟨w.heap.size, 3, none⟩ (.int .i64 0)).setCell ⟨w.heap.size, 4, none⟩ (.int .i64 0)).setCell ⟨w.heap.size, 5, none⟩ (.int .i64 0)) = w6 at *
                      have z0 := B6.cell 0; have z1 := B6.cell 1; have z2 := B6.cell 2; have z3 := B6.cell 3; have z4 := B6.cell 4; have z5 := B6.cell 5; simp only [List.setIfInBounds_toArray, List.set_cons_zero, List.set_cons_succ, List.getElem?_toArray, List.getElem?_cons_zero, List.getElem?_cons_succ] at z0 z1 z2 z3 z4 z5
                      refine bodyPost_ret (v := .tuple #[opt0.val, .slice none 0 0, .int .i64 0, .int .i64 _]) ?_ rfl ⟨_, rfl, World.ownsRow_nil _ _ _ _, L6⟩
                      simp [results, Tryz.results20, go_sem, z0, z1, z2, z3, z4, z5, Opt.val, opt0]
                    · obtain rfl : lf = 0 := by omega
                      by_cases h2 : acc.length = N
                      · have hno : ¬ ((0 : Nat) < 0 ∨ acc.length ≠ N) := by omega
                        have O5 := Lib.hid (O5.out hno)
                        have O6 := Lib.hid (O6.out hno)
                        have HN2 := Lib.hid h2
                        have G1 : ((acc.length : Int) != (N : Int)) = false := by simp; omega
                        clear O4 h1 hno h2
                        by_cases h3 : chkE acc = 0
                        · obtain ⟨rfl, rfl, rfl, rfl⟩ := O6.out h3
                          rw [h3] at E2
                          clear O5 O6 h3
                          go_wp2_with fail
                          refine E1.out.mono ?_
                          rintro e w1x ⟨rfl, q, rfl⟩
                          have E3 := Lib.hid (E2.out q)
                          have HZq := Lib.hid (HZ0.out.drewN q)
                          have HOq := Lib.hid (HOE.out.drewN q)
                          have HAq : Hid ((w0.drewN q).ownsRow wT.heap.size 77 4 (.slice A2 ol.length c2) ol.length (recL ol)) := HO.out
                          clear E1 E2 HZ0 HO HOE
                          go_wp2_with fail
                          refine E3.out.mono ?_
                          rintro e wX ⟨rfl, hb2⟩
                          have HZ := Lib.hid (HZq.out.step hb2)
                          have HOX := Lib.hid (HOq.out.step hb2)
                          have HAX : Hid (wX.ownsRow wT.heap.size 77 4 (.slice A2 ol.length c2) ol.length (recL ol)) := own_kept HAq.out (fun q hq => hb2.block q (World.ownsRow.lt HAq.out q hq).2)
                          clear hb2 E3 HZq HOq HAq
                          have B6 := ((((((HZ.out.rb.set 0 (.int .i64 S)).set 1 (.bool pl)).set 2 (.int .i64 0)).set 3 (.int .i64 0)).set 4 (.int .i64 0)).set 5 (.int .i64 0))
                          have L6 : Below w.heap.size w ((((((wX.setCell ⟨w.heap.size, 0, none⟩ (.int .i64 S)).setCell ⟨w.heap.size, 1, none⟩ (.bool pl)).setCell ⟨w.heap.size, 2, none⟩ (.int .i64 0)).setCell ⟨w.heap.size, 3, none⟩ (.int .i64 0)).setCell ⟨w.heap.size, 4, none⟩ (.int .i64 0)).setCell ⟨w.heap.size, 5, none⟩ (.int .i64 0)) := bel_six (Nat.le_refl _) HZ.out.bl _ _
                          have hnb : (Value.slice A2 ol.length c2).ownBlock ≠ some w.heap.size := own_blk HAX.out HZ.out.rb (by decide)
                          have O6 := set_own (p := ⟨w.heap.size, 5, none⟩) (set_own (p := ⟨w.heap.size, 4, none⟩) (set_own (p := ⟨w.heap.size, 3, none⟩) (set_own (p := ⟨w.heap.size, 2, none⟩) (set_own (p := ⟨w.heap.size, 1, none⟩) (set_own (p := ⟨w.heap.size, 0, none⟩) HAX.out hnb (.int .i64 S)) hnb (.bool pl)) hnb (.int .i64 0)) hnb (.int .i64 0)) hnb (.int .i64 0)) hnb (.int .i64 0)
                          have j0 := HZ.out.rb.cell 0; have j1 := HZ.out.rb.cell 1; have j2 := HZ.out.rb.cell 2; have j3 := HZ.out.rb.cell 3; have j4 := HZ.out.rb.cell 4; have j5 := HZ.out.rb.cell 5; simp only [List.getElem?_toArray, List.getElem?_cons_zero, List.getElem?_cons_succ] at j0 j1 j2 j3 j4 j5
                          have k0 := HZ.out.rb.frozen 0; have k1 := HZ.out.rb.frozen 1; have k2 := HZ.out.rb.frozen 2; have k3 := HZ.out.rb.frozen 3; have k4 := HZ.out.rb.frozen 4; have k5 := HZ.out.rb.frozen 5
                          have n0 := HOX.out.cell 0; have n1 := HOX.out.cell 1; have n2 := HOX.out.cell 2; have n3 := HOX.out.cell 3; have n4 := HOX.out.cell 4; have n5 := HOX.out.cell 5; simp only [List.setIfInBounds_toArray, List.set_cons_zero, List.set_cons_succ, List.getElem?_toArray, List.getElem?_cons_zero, List.getElem?_cons_succ] at n0 n1 n2 n3 n4 n5
                          go_wp2_with fail
                          generalize ((((((wX.setCell ⟨w.heap.size, 0, none⟩ (.int .i64 S)).setCell ⟨w.heap.size, 1, none⟩ (.bool pl)).setCell ⟨w.heap.size, 2, none⟩ (.int .i64 0)).setCell ⟨w.heap.size, 3, none⟩ (.int .i64 0)).setCell ⟨w.heap.size, 4, none⟩ (.int .i64 0)).setCell ⟨w.heap.size, 5, none⟩ (.int .i64 0)) = w6 at *
                          have z0 := B6.cell 0; have z1 := B6.cell 1; have z2 := B6.cell 2; have z3 := B6.cell 3; have z4 := B6.cell 4; have z5 := B6.cell 5; simp only [List.setIfInBounds_toArray, List.set_cons_zero, List.set_cons_succ, List.getElem?_toArray, List.getElem?_cons_zero, List.getElem?_cons_succ] at z0 z1 z2 z3 z4 z5
                          refine bodyPost_ret (v := .tuple #[Opt.val ⟨S, pl, 0, 0, 0, 0⟩, .slice A2 ol.length c2, .int .i64 on, .int .i64 0]) ?_ rfl ⟨_, rfl, own_mono O6 HBW.out, L6⟩
                          simp [results, Tryz.results20, go_sem, z0, z1, z2, z3, z4, z5, Opt.val]
                        · obtain ⟨rfl, rfl, rfl, rfl⟩ := O5.out h3
                          have G2 : (chkE acc != 0) = true := by simpa using h3
                          clear O5 O6 h3
                          go_wp2_with fail
                          refine E1.out.mono ?_
                          rintro e w1x ⟨rfl, q, rfl⟩
                          have E3 := Lib.hid (E2.out q)
                          have HZq := Lib.hid (HZ0.out.drewN q)
                          clear E1 E2 HZ0
                          go_wp2_with fail
                          refine E3.out.mono ?_
                          rintro e wX ⟨rfl, hb2⟩
                          have HZ := Lib.hid (HZq.out.step hb2)
                          clear hb2 E3 HZq
                          have B6 := ((((((HZ.out.rb.set 0 (.int .i64 0)).set 1 (.bool false)).set 2 (.int .i64 0)).set 3 (.int .i64 0)).set 4 (.int .i64 0)).set 5 (.int .i64 0))
                          have L6 : Below w.heap.size w ((((((wX.setCell ⟨w.heap.size, 0, none⟩ (.int .i64 0)).setCell ⟨w.heap.size, 1, none⟩ (.bool false)).setCell ⟨w.heap.size, 2, none⟩ (.int .i64 0)).setCell ⟨w.heap.size, 3, none⟩ (.int .i64 0)).setCell ⟨w.heap.size, 4, none⟩ (.int .i64 0)).setCell ⟨w.heap.size, 5, none⟩ (.int .i64 0)) := bel_six (Nat.le_refl _) HZ.out.bl _ _
                          have j0 := HZ.out.rb.cell 0; have j1 := HZ.out.rb.cell 1; have j2 := HZ.out.rb.cell 2; have j3 := HZ.out.rb.cell 3; have j4 := HZ.out.rb.cell 4; have j5 := HZ.out.rb.cell 5; simp only [List.getElem?_toArray, List.getElem?_cons_zero, List.getElem?_cons_succ] at j0 j1 j2 j3 j4 j5
                          have k0 := HZ.out.rb.frozen 0; have k1 := HZ.out.rb.frozen 1; have k2 := HZ.out.rb.frozen 2; have k3 := HZ.out.rb.frozen 3; have k4 := HZ.out.rb.frozen 4; have k5 := HZ.out.rb.frozen 5
                          have n0 := HZ.out.nb.cell 0; have n1 := HZ.out.nb.cell 1; have n2 := HZ.out.nb.cell 2; have n3 := HZ.out.nb.cell 3; have n4 := HZ.out.nb.cell 4; have n5 := HZ.out.nb.cell 5; simp only [List.getElem?_toArray, List.getElem?_cons_zero, List.getElem?_cons_succ] at n0 n1 n2 n3 n4 n5
                          go_wp2_with fail
                          generalize ((((((wX.setCell ⟨w.heap.size, 0, none⟩ (.int .i64 0)).setCell ⟨w.heap.size, 1, none⟩ (.bool false)).setCell ⟨w.heap.size, 2, none⟩ (.int .i64 0)).setCell ⟨w.heap.size, 3, none⟩ (.int .i64 0)).setCell ⟨w.heap.size, 4, none⟩ (.int .i64 0)).setCell ⟨w.heap.size, 5, none⟩ (.int .i64 0)) = w6 at *
                          have z0 := B6.cell 0; have z1 := B6.cell 1; have z2 := B6.cell 2; have z3 := B6.cell 3; have z4 := B6.cell 4; have z5 := B6.cell 5; simp only [List.setIfInBounds_toArray, List.set_cons_zero, List.set_cons_succ, List.getElem?_toArray, List.getElem?_cons_zero, List.getElem?_cons_succ] at z0 z1 z2 z3 z4 z5
                          refine bodyPost_ret (v := .tuple #[opt0.val, .slice none 0 0, .int .i64 0, .int .i64 _]) ?_ rfl ⟨_, rfl, World.ownsRow_nil _ _ _ _, L6⟩
                          simp [results, Tryz.results20, go_sem, z0, z1, z2, z3, z4, z5, Opt.val, opt0]
                      · obtain ⟨rfl, rfl, rfl, rfl⟩ := O4.out (.inr h2)
                        have G1 : ((acc.length : Int) != (N : Int)) = true := by simp; omega
                        clear O4 O5 O6 E2 h1 h2
                        go_wp2_with fail
                        refine E1.out.mono ?_
                        rintro e wX ⟨rfl, q, rfl⟩
                        have HZ := Lib.hid (HZ0.out.drewN q)
                        clear E1 HZ0
                        obtain ⟨wX, hwX⟩ : ∃ wX : World, wX = w0.drewN q := ⟨_, rfl⟩
                        rw [← hwX] at HZ ⊢
                        clear hwX
                        have B6 := ((((((HZ.out.rb.set 0 (.int .i64 0)).set 1 (.bool false)).set 2 (.int .i64 0)).set 3 (.int .i64 0)).set 4 (.int .i64 0)).set 5 (.int .i64 0))
                        have L6 : Below w.heap.size w ((((((wX.setCell ⟨w.heap.size, 0, none⟩ (.int .i64 0)).setCell ⟨w.heap.size, 1, none⟩ (.bool false)).setCell ⟨w.heap.size, 2, none⟩ (.int .i64 0)).setCell ⟨w.heap.size, 3, none⟩ (.int .i64 0)).setCell ⟨w.heap.size, 4, none⟩ (.int .i64 0)).setCell ⟨w.heap.size, 5, none⟩ (.int .i64 0)) := bel_six (Nat.le_refl _) HZ.out.bl _ _
                        have j0 := HZ.out.rb.cell 0; have j1 := HZ.out.rb.cell 1; have j2 := HZ.out.rb.cell 2; have j3 := HZ.out.rb.cell 3; have j4 := HZ.out.rb.cell 4; have j5 := HZ.out.rb.cell 5; simp only [List.getElem?_toArray, List.getElem?_cons_zero, List.getElem?_cons_succ] at j0 j1 j2 j3 j4 j5
                        have k0 := HZ.out.rb.frozen 0; have k1 := HZ.out.rb.frozen 1; have k2 := HZ.out.rb.frozen 2; have k3 := HZ.out.rb.frozen 3; have k4 := HZ.out.rb.frozen 4; have k5 := HZ.out.rb.frozen 5
                        have n0 := HZ.out.nb.cell 0; have n1 := HZ.out.nb.cell 1; have n2 := HZ.out.nb.cell 2; have n3 := HZ.out.nb.cell 3; have n4 := HZ.out.nb.cell 4; have n5 := HZ.out.nb.cell 5; simp only [List.getElem?_toArray, List.getElem?_cons_zero, List.getElem?_cons_succ] at n0 n1 n2 n3 n4 n5
                        go_wp2_with fail
                        generalize ((((((wX.setCell ⟨w.heap.size, 0, none⟩ (.int .i64 0)).setCell ⟨w.heap.size, 1, none⟩ (.bool false)).setCell ⟨w.heap.size, 2, none⟩ (.int .i64 0)).setCell ⟨w.heap.size, 3, none⟩ (.int .i64 0)).setCell ⟨w.heap.size, 4, none⟩ (.int .i64 0)).setCell ⟨w.heap.size, 5, none⟩ (.int .i64 0)) = w6 at *
                        have z0 := B6.cell 0; have z1 := B6.cell 1; have z2 := B6.cell 2; have z3 := B6.cell 3; have z4 := B6.cell 4; have z5 := B6.cell 5; simp only [List.setIfInBounds_toArray, List.set_cons_zero, List.set_cons_succ, List.getElem?_toArray, List.getElem?_cons_zero, List.getElem?_cons_succ] at z0 z1 z2 z3 z4 z5
                        refine bodyPost_ret (v := .tuple #[opt0.val, .slice none 0 0, .int .i64 0, .int .i64 _]) ?_ rfl ⟨_, rfl, World.ownsRow_nil _ _ _ _, L6⟩
                        simp [results, Tryz.results20, go_sem, z0, z1, z2, z3, z4, z5, Opt.val, opt0]
              · have h9 := optE_nine hE
                obtain ⟨rfl, rfl, rfl, rfl⟩ := N2.out hE
                rw [h9] at E9
                clear hE h9 N2 N3 N4 N5 N6
                go_wp2_with fail
                refine E9.out.mono ?_
                rintro e wX ⟨rfl, hbX⟩
                have HZ := Lib.hid (HZ9.out.step hbX)
                clear E9 hbX HZ9 HY9 HO9 HC9 cE o0 o1 o2 o3 o4 o5
                have B6 := ((((((HZ.out.rb.set 0 (.int .i64 0)).set 1 (.bool false)).set 2 (.int .i64 0)).set 3 (.int .i64 0)).set 4 (.int .i64 0)).set 5 (.int .i64 0))
                have L6 : Below w.heap.size w ((((((wX.setCell ⟨w.heap.size, 0, none⟩ (.int .i64 0)).setCell ⟨w.heap.size, 1, none⟩ (.bool false)).setCell ⟨w.heap.size, 2, none⟩ (.int .i64 0)).setCell ⟨w.heap.size, 3, none⟩ (.int .i64 0)).setCell ⟨w.heap.size, 4, none⟩ (.int .i64 0)).setCell ⟨w.heap.size, 5, none⟩ (.int .i64 0)) := bel_six (Nat.le_refl _) HZ.out.bl _ _
                have j0 := HZ.out.rb.cell 0; have j1 := HZ.out.rb.cell 1; have j2 := HZ.out.rb.cell 2; have j3 := HZ.out.rb.cell 3; have j4 := HZ.out.rb.cell 4; have j5 := HZ.out.rb.cell 5; simp only [List.getElem?_toArray, List.getElem?_cons_zero, List.getElem?_cons_succ] at j0 j1 j2 j3 j4 j5
                have k0 := HZ.out.rb.frozen 0; have k1 := HZ.out.rb.frozen 1; have k2 := HZ.out.rb.frozen 2; have k3 := HZ.out.rb.frozen 3; have k4 := HZ.out.rb.frozen 4; have k5 := HZ.out.rb.frozen 5
                have n0 := HZ.out.nb.cell 0; have n1 := HZ.out.nb.cell 1; have n2 := HZ.out.nb.cell 2; have n3 := HZ.out.nb.cell 3; have n4 := HZ.out.nb.cell 4; have n5 := HZ.out.nb.cell 5; simp only [List.getElem?_toArray, List.getElem?_cons_zero, List.getElem?_cons_succ] at n0 n1 n2 n3 n4 n5
                go_wp2_with fail
                generalize ((((((wX.setCell ⟨w.heap.size, 0, none⟩ (.int .i64 0)).setCell ⟨w.heap.size, 1, none⟩ (.bool false)).setCell ⟨w.heap.size, 2, none⟩ (.int .i64 0)).setCell ⟨w.heap.size, 3, none⟩ (.int .i64 0)).setCell ⟨w.heap.size, 4, none⟩ (.int .i64 0)).setCell ⟨w.heap.size, 5, none⟩ (.int .i64 0)) = w6 at *
                have z0 := B6.cell 0; have z1 := B6.cell 1; have z2 := B6.cell 2; have z3 := B6.cell 3; have z4 := B6.cell 4; have z5 := B6.cell 5; simp only [List.setIfInBounds_toArray, List.set_cons_zero, List.set_cons_succ, List.getElem?_toArray, List.getElem?_cons_zero, List.getElem?_cons_succ] at z0 z1 z2 z3 z4 z5
                refine bodyPost_ret (v := .tuple #[opt0.val, .slice none 0 0, .int .i64 0, .int .i64 _]) ?_ rfl ⟨_, rfl, World.ownsRow_nil _ _ _ _, L6⟩
                simp [results, Tryz.results20, go_sem, z0, z1, z2, z3, z4, z5, Opt.val, opt0]
            · obtain ⟨rfl, rfl, rfl, rfl⟩ := M1.out h5
              have g5 : (oe != 0) = true := by simpa using h5
              have HZ := Lib.hid HZ9.out
              clear h5 M1 M2 M3 M4 M5 M6 HZ9 HY9 HO9 HC9
              obtain ⟨wX, rfl⟩ : ∃ wX : World, wX = w9 := ⟨_, rfl⟩
              have B6 := ((((((HZ.out.rb.set 0 (.int .i64 0)).set 1 (.bool false)).set 2 (.int .i64 0)).set 3 (.int .i64 0)).set 4 (.int .i64 0)).set 5 (.int .i64 0))
              have L6 : Below w.heap.size w ((((((wX.setCell ⟨w.heap.size, 0, none⟩ (.int .i64 0)).setCell ⟨w.heap.size, 1, none⟩ (.bool false)).setCell ⟨w.heap.size, 2, none⟩ (.int .i64 0)).setCell ⟨w.heap.size, 3, none⟩ (.int .i64 0)).setCell ⟨w.heap.size, 4, none⟩ (.int .i64 0)).setCell ⟨w.heap.size, 5, none⟩ (.int .i64 0)) := bel_six (Nat.le_refl _) HZ.out.bl _ _
              have j0 := HZ.out.rb.cell 0; have j1 := HZ.out.rb.cell 1; have j2 := HZ.out.rb.cell 2; have j3 := HZ.out.rb.cell 3; have j4 := HZ.out.rb.cell 4; have j5 := HZ.out.rb.cell 5; simp only [List.getElem?_toArray, List.getElem?_cons_zero, List.getElem?_cons_succ] at j0 j1 j2 j3 j4 j5
              have k0 := HZ.out.rb.frozen 0; have k1 := HZ.out.rb.frozen 1; have k2 := HZ.out.rb.frozen 2; have k3 := HZ.out.rb.frozen 3; have k4 := HZ.out.rb.frozen 4; have k5 := HZ.out.rb.frozen 5
              have n0 := HZ.out.nb.cell 0; have n1 := HZ.out.nb.cell 1; have n2 := HZ.out.nb.cell 2; have n3 := HZ.out.nb.cell 3; have n4 := HZ.out.nb.cell 4; have n5 := HZ.out.nb.cell 5; simp only [List.getElem?_toArray, List.getElem?_cons_zero, List.getElem?_cons_succ] at n0 n1 n2 n3 n4 n5
              go_wp2_with fail
              go_region
              generalize ((((((wX.setCell ⟨w.heap.size, 0, none⟩ (.int .i64 0)).setCell ⟨w.heap.size, 1, none⟩ (.bool false)).setCell ⟨w.heap.size, 2, none⟩ (.int .i64 0)).setCell ⟨w.heap.size, 3, none⟩ (.int .i64 0)).setCell ⟨w.heap.size, 4, none⟩ (.int .i64 0)).setCell ⟨w.heap.size, 5, none⟩ (.int .i64 0)) = w6 at *
              go_wp2_with fail
              have B7 := B6.drew
              have z0 := B7.cell 0; have z1 := B7.cell 1; have z2 := B7.cell 2; have z3 := B7.cell 3; have z4 := B7.cell 4; have z5 := B7.cell 5; simp only [List.setIfInBounds_toArray, List.set_cons_zero, List.set_cons_succ, List.getElem?_toArray, List.getElem?_cons_zero, List.getElem?_cons_succ] at z0 z1 z2 z3 z4 z5
              refine bodyPost_ret (v := .tuple #[opt0.val, .slice none 0 0, .int .i64 0, .int .i64 _]) ?_ rfl ⟨_, rfl, World.ownsRow_nil _ _ _ _, L6.drew⟩
              simp [results, Tryz.results20, go_sem, z0, z1, z2, z3, z4, z5, Opt.val, opt0]
      · obtain ⟨rfl, rfl, rfl, rfl⟩ := K3.out (by first | exact h2 | trivial)
        have g1 : (oe != 0) = true := by simpa using h2
        have HZ := Lib.hid HZ2.out
        clear K3 K4 K5 F2 F3 F4 h2 HZ2
        obtain ⟨wX, rfl⟩ : ∃ wX : World, wX = w2 := ⟨_, rfl⟩
        have B6 := ((((((HZ.out.rb.set 0 (.int .i64 0)).set 1 (.bool false)).set 2 (.int .i64 0)).set 3 (.int .i64 0)).set 4 (.int .i64 0)).set 5 (.int .i64 0))
        have L6 : Below w.heap.size w ((((((wX.setCell ⟨w.heap.size, 0, none⟩ (.int .i64 0)).setCell ⟨w.heap.size, 1, none⟩ (.bool false)).setCell ⟨w.heap.size, 2, none⟩ (.int .i64 0)).setCell ⟨w.heap.size, 3, none⟩ (.int .i64 0)).setCell ⟨w.heap.size, 4, none⟩ (.int .i64 0)).setCell ⟨w.heap.size, 5, none⟩ (.int .i64 0)) := bel_six (Nat.le_refl _) HZ.out.bl _ _
        have j0 := HZ.out.rb.cell 0; have j1 := HZ.out.rb.cell 1; have j2 := HZ.out.rb.cell 2; have j3 := HZ.out.rb.cell 3; have j4 := HZ.out.rb.cell 4; have j5 := HZ.out.rb.cell 5; simp only [List.getElem?_toArray, List.getElem?_cons_zero, List.getElem?_cons_succ] at j0 j1 j2 j3 j4 j5
        have k0 := HZ.out.rb.frozen 0; have k1 := HZ.out.rb.frozen 1; have k2 := HZ.out.rb.frozen 2; have k3 := HZ.out.rb.frozen 3; have k4 := HZ.out.rb.frozen 4; have k5 := HZ.out.rb.frozen 5
        have n0 := HZ.out.nb.cell 0; have n1 := HZ.out.nb.cell 1; have n2 := HZ.out.nb.cell 2; have n3 := HZ.out.nb.cell 3; have n4 := HZ.out.nb.cell 4; have n5 := HZ.out.nb.cell 5; simp only [List.getElem?_toArray, List.getElem?_cons_zero, List.getElem?_cons_succ] at n0 n1 n2 n3 n4 n5
        go_wp2_with fail
        generalize ((((((wX.setCell ⟨w.heap.size, 0, none⟩ (.int .i64 0)).setCell ⟨w.heap.size, 1, none⟩ (.bool false)).setCell ⟨w.heap.size, 2, none⟩ (.int .i64 0)).setCell ⟨w.heap.size, 3, none⟩ (.int .i64 0)).setCell ⟨w.heap.size, 4, none⟩ (.int .i64 0)).setCell ⟨w.heap.size, 5, none⟩ (.int .i64 0)) = w6 at *
        have z0 := B6.cell 0; have z1 := B6.cell 1; have z2 := B6.cell 2; have z3 := B6.cell 3; have z4 := B6.cell 4; have z5 := B6.cell 5; simp only [List.setIfInBounds_toArray, List.set_cons_zero, List.set_cons_succ, List.getElem?_toArray, List.getElem?_cons_zero, List.getElem?_cons_succ] at z0 z1 z2 z3 z4 z5
        refine bodyPost_ret (v := .tuple #[opt0.val, .slice none 0 0, .int .i64 0, .int .i64 _]) ?_ rfl ⟨_, rfl, World.ownsRow_nil _ _ _ _, L6⟩
        simp [results, Tryz.results20, go_sem, z0, z1, z2, z3, z4, z5, Opt.val, opt0]
    · obtain ⟨rfl, rfl, rfl, rfl⟩ := G2.out rfl h1
      have g1 : ((mv : Int) != 1) = true := by simp; omega
      clear G1 G2 G3 G4 G5 F2 F3 F4 h1 D2
      obtain ⟨wX, rfl⟩ : ∃ wX : World, wX = w1' := ⟨_, rfl⟩
      have B6 := ((((((HZ.out.rb.set 0 (.int .i64 0)).set 1 (.bool false)).set 2 (.int .i64 0)).set 3 (.int .i64 0)).set 4 (.int .i64 0)).set 5 (.int .i64 0))
      have L6 : Below w.heap.size w ((((((wX.setCell ⟨w.heap.size, 0, none⟩ (.int .i64 0)).setCell ⟨w.heap.size, 1, none⟩ (.bool false)).setCell ⟨w.heap.size, 2, none⟩ (.int .i64 0)).setCell ⟨w.heap.size, 3, none⟩ (.int .i64 0)).setCell ⟨w.heap.size, 4, none⟩ (.int .i64 0)).setCell ⟨w.heap.size, 5, none⟩ (.int .i64 0)) := bel_six (Nat.le_refl _) HZ.out.bl _ _
      have j0 := HZ.out.rb.cell 0; have j1 := HZ.out.rb.cell 1; have j2 := HZ.out.rb.cell 2; have j3 := HZ.out.rb.cell 3; have j4 := HZ.out.rb.cell 4; have j5 := HZ.out.rb.cell 5; simp only [List.getElem?_toArray, List.getElem?_cons_zero, List.getElem?_cons_succ] at j0 j1 j2 j3 j4 j5
      have k0 := HZ.out.rb.frozen 0; have k1 := HZ.out.rb.frozen 1; have k2 := HZ.out.rb.frozen 2; have k3 := HZ.out.rb.frozen 3; have k4 := HZ.out.rb.frozen 4; have k5 := HZ.out.rb.frozen 5
      have n0 := HZ.out.nb.cell 0; have n1 := HZ.out.nb.cell 1; have n2 := HZ.out.nb.cell 2; have n3 := HZ.out.nb.cell 3; have n4 := HZ.out.nb.cell 4; have n5 := HZ.out.nb.cell 5; simp only [List.getElem?_toArray, List.getElem?_cons_zero, List.getElem?_cons_succ] at n0 n1 n2 n3 n4 n5
      go_wp2_with fail
      generalize ((((((wX.setCell ⟨w.heap.size, 0, none⟩ (.int .i64 0)).setCell ⟨w.heap.size, 1, none⟩ (.bool false)).setCell ⟨w.heap.size, 2, none⟩ (.int .i64 0)).setCell ⟨w.heap.size, 3, none⟩ (.int .i64 0)).setCell ⟨w.heap.size, 4, none⟩ (.int .i64 0)).setCell ⟨w.heap.size, 5, none⟩ (.int .i64 0)) = w6 at *
      have z0 := B6.cell 0; have z1 := B6.cell 1; have z2 := B6.cell 2; have z3 := B6.cell 3; have z4 := B6.cell 4; have z5 := B6.cell 5; simp only [List.setIfInBounds_toArray, List.set_cons_zero, List.set_cons_succ, List.getElem?_toArray, List.getElem?_cons_zero, List.getElem?_cons_succ] at z0 z1 z2 z3 z4 z5
      refine bodyPost_ret (v := .tuple #[opt0.val, .slice none 0 0, .int .i64 0, .int .i64 _]) ?_ rfl ⟨_, rfl, World.ownsRow_nil _ _ _ _, L6⟩
      simp [results, Tryz.results20, go_sem, z0, z1, z2, z3, z4, z5, Opt.val, opt0]
  · obtain ⟨rfl, rfl, rfl, rfl⟩ := G1.out h0
    have g1 : (oe != 0) = true := by simpa using h0
    clear G1 G2 G3 G4 G5 F2 F3 F4 h0 D2
    obtain ⟨wX, rfl⟩ : ∃ wX : World, wX = w1' := ⟨_, rfl⟩
    have B6 := ((((((HZ.out.rb.set 0 (.int .i64 0)).set 1 (.bool false)).set 2 (.int .i64 0)).set 3 (.int .i64 0)).set 4 (.int .i64 0)).set 5 (.int .i64 0))
    have L6 : Below w.heap.size w ((((((wX.setCell ⟨w.heap.size, 0, none⟩ (.int .i64 0)).setCell ⟨w.heap.size, 1, none⟩ (.bool false)).setCell ⟨w.heap.size, 2, none⟩ (.int .i64 0)).setCell ⟨w.heap.size, 3, none⟩ (.int .i64 0)).setCell ⟨w.heap.size, 4, none⟩ (.int .i64 0)).setCell ⟨w.heap.size, 5, none⟩ (.int .i64 0)) := bel_six (Nat.le_refl _) HZ.out.bl _ _
    have j0 := HZ.out.rb.cell 0; have j1 := HZ.out.rb.cell 1; have j2 := HZ.out.rb.cell 2; have j3 := HZ.out.rb.cell 3; have j4 := HZ.out.rb.cell 4; have j5 := HZ.out.rb.cell 5; simp only [List.getElem?_toArray, List.getElem?_cons_zero, List.getElem?_cons_succ] at j0 j1 j2 j3 j4 j5
    have k0 := HZ.out.rb.frozen 0; have k1 := HZ.out.rb.frozen 1; have k2 := HZ.out.rb.frozen 2; have k3 := HZ.out.rb.frozen 3; have k4 := HZ.out.rb.frozen 4; have k5 := HZ.out.rb.frozen 5
    have n0 := HZ.out.nb.cell 0; have n1 := HZ.out.nb.cell 1; have n2 := HZ.out.nb.cell 2; have n3 := HZ.out.nb.cell 3; have n4 := HZ.out.nb.cell 4; have n5 := HZ.out.nb.cell 5; simp only [List.getElem?_toArray, List.getElem?_cons_zero, List.getElem?_cons_succ] at n0 n1 n2 n3 n4 n5
    go_wp2_with fail
    generalize ((((((wX.setCell ⟨w.heap.size, 0, none⟩ (.int .i64 0)).setCell ⟨w.heap.size, 1, none⟩ (.bool false)).setCell ⟨w.heap.size, 2, none⟩ (.int .i64 0)).setCell ⟨w.heap.size, 3, none⟩ (.int .i64 0)).setCell ⟨w.heap.size, 4, none⟩ (.int .i64 0)).setCell ⟨w.heap.size, 5, none⟩ (.int .i64 0)) = w6 at *
    have z0 := B6.cell 0; have z1 := B6.cell 1; have z2 := B6.cell 2; have z3 := B6.cell 3; have z4 := B6.cell 4; have z5 := B6.cell 5; simp only [List.setIfInBounds_toArray, List.set_cons_zero, List.set_cons_succ, List.getElem?_toArray, List.getElem?_cons_zero, List.getElem?_cons_succ] at z0 z1 z2 z3 z4 z5
    refine bodyPost_ret (v := .tuple #[opt0.val, .slice none 0 0, .int .i64 0, .int .i64 _]) ?_ rfl ⟨_, rfl, World.ownsRow_nil _ _ _ _, L6⟩
    simp [results, Tryz.results20, go_sem, z0, z1, z2, z3, z4, z5, Opt.val, opt0]
end Go.Proofs.YtmgjgkdbagbleaaGreatDoor.One
namespace Go.Proofs.YtmgjgkdbagbleaaGreatDoor.One
open Go.RowKit Go.Proofs.YtmgjgkdbagbleaaGreatDoor.Mem Go.Proofs.YtmgjgkdbagbleaaGreatDoor.Own Go.Proofs.YtmgjgkdbagbleaaGreatDoor.Canon Go.Proofs.YtmgjgkdbagbleaaGreatDoor.NumPut Go.Proofs.YtmgjgkdbagbleaaGreatDoor.Nums Go.Proofs.YtmgjgkdbagbleaaGreatDoor.Opts
open Go.Proofs.YtmgjgkdbagbleaaGreatDoor.Recs Go.Proofs.YtmgjgkdbagbleaaGreatDoor.Block
open Go.Proofs.YtmgjgkdbagbleaaGreatDoor.Crc (TabAt)
set_option maxRecDepth 100000 in
theorem law_unpacks_long (w : World) (A : Option Addr) (n c : Nat) (hn : n ≤ 9223372036854775807) (h : 1500 < n) (ht : TabAt w) :
    Calls Tryz.prog 3 #[.slice A n c] w fun e w' => e = .returned (.bool true) ∧ Below w.heap.size w w' := by
  have D := Lib.hid (alive21n w ht)
  have g1 : decide ((1500 : Int) < (n : Int)) = true := by simp; omega
  have g1' : decide (1500 < n) = true := by simp; omega
  clear ht
  go_enter Tryz.func3, Tryz.ntmps3
  go_wp2_with fail
  refine D.out.mono ?_
  rintro e w1 ⟨rfl, hb⟩
  go_wp2_with fail
  go_ret
  exact ⟨rfl, hb⟩
theorem logGo_len {bs : List Nat} (hle : bs.length ≤ 100000) (h8 : ∀ x ∈ bs, x ≤ 255) : ∀ (k at_ : Nat) (acc : List Rec), (logGo bs k at_ acc).1.length ≤ acc.length + k * 100000
  | 0, _, acc => by simp [logGo]
  | k + 1, at_, acc => by
    have hb := blkO_len (x := bs.drop at_) (fun y hy => h8 y (List.mem_of_mem_drop hy))
    rw [List.length_drop] at hb
    have ih := logGo_len hle h8 k (at_ + opA (bs.drop at_)) (acc ++ blkO (bs.drop at_))
    rw [List.length_append] at ih
    rw [logGo]
    split
    · simp
    · have : (blkO (bs.drop at_)).length ≤ 100000 := by omega
      omega
theorem unL_len {bs : List Nat} (hle : bs.length ≤ 100000) (h8 : ∀ x ∈ bs, x ≤ 255) : (unL bs).length ≤ 9223372036854775807 := by
  obtain ⟨h1, h2⟩ := whole_small h8
  have hm : hM (wholeO bs) ≤ 20000 := Nat.le_trans (intV_le _ h2 _ _) (intV_le _ h2 _ _)
  have hg := logGo_len (by omega) h2 (hM (wholeO bs)) (hA5 (wholeO bs)) []
  have h0 : ([] : List Rec).length = 0 := rfl
  unfold unL unR logR
  repeat' split
  all_goals first | (simp only [List.length_nil]; omega) | (simp only; omega) | omega
theorem recs_same (la : List Rec) : recsEq la la = true := by simp [recsEq]
set_option maxHeartbeats 2000000 in
set_option maxRecDepth 100000 in
theorem law_unpacks (w : World) (A : Option Addr) (n c : Nat) (bs : List Nat) (hn : bs.length = n) (hle : n ≤ 1500) (hcap : n ≤ c) (h8 : ∀ x ∈ bs, x ≤ 255) (ht : TabAt w) (ha : Row w w.heap.size A n 1 (numF .u8 bs)) :
    Calls Tryz.prog 3 #[.slice A n c] w fun e w' => e = .returned (.bool true) ∧ Below w.heap.size w w' := by
  have D0 := Lib.hid (alive21n w ht)
  have D1 := Lib.hid (fun wx (hx : Below w.heap.size w wx) => un_any wx A n c bs hn (by omega) hcap h8 (ht.step hx) ((ha.below hx).mono hx.size))
  have D2 := Lib.hid (fun wx (hx : Below w.heap.size w wx) => run21_any wx A n c bs hn (by omega) hcap h8 ((ha.below hx).mono hx.size))
  have DS : Hid (∀ (wx : World) Ax cx Ay cy (l : List Rec), l.length ≤ 9223372036854775807 → Row wx wx.heap.size Ax l.length 4 (recF l) → Row wx wx.heap.size Ay l.length 4 (recF l) → Calls Tryz.prog 21 #[.slice Ax l.length cx, .slice Ay l.length cy] wx fun e w' => e = .returned (.bool true) ∧ Below wx.heap.size wx w') := fun wx Ax cx Ay cy l hl hx hy => by
    have := ref_same wx Ax Ay l.length l.length cx cy l l rfl rfl hl hl hx hy
    rwa [recs_same] at this
  have HL : Hid ((unL bs).length ≤ 9223372036854775807) := unL_len (by omega) h8
  have g1 : decide ((1500 : Int) < (n : Int)) = false := by simp; omega
  have g1' : decide (1500 < n) = false := by simp; omega
  unfold UnPost at D1 D2
  generalize unO bs = oo at *
  generalize unL bs = ol at *
  generalize unN bs = on at *
  generalize unE bs = oe at *
  clear hn hle hcap h8 ht ha
  obtain ⟨S, pl, bu, da, pa, ch⟩ := oo
  unfold Opt.val at D1 D2
  simp only at D1 D2
  have ge : (oe == oe) = true := by simp
  have gn : (((on : Nat) : Int) == ((on : Nat) : Int)) = true := by simp
  go_enter Tryz.func3, Tryz.ntmps3
  go_wp2_with fail
  refine D0.out.mono ?_
  rintro e w1 ⟨rfl, hb1⟩
  have B1 := Lib.hid hb1
  have E1 := Lib.hid (D1.out w1 hb1)
  clear hb1 D0 D1
  go_wp2_with fail
  refine E1.out.mono ?_
  rintro e w2 ⟨v2, rfl, ho2, hb2⟩
  obtain ⟨A2, c2, rfl⟩ := own_shape ho2
  have B2 : Hid (Below w.heap.size w w2) := bel_step0 hb2 B1.out
  have HO2 := Lib.hid (own_recs ho2)
  clear hb2 E1 B1 ho2
  go_wp2_with fail
  have hbx : Blk (w2.alloc (.cells #[.int .i64 S, .bool pl, .int .i64 bu, .int .i64 da, .int .i64 pa, .int .i64 ch] 25)) w2.heap.size 25 #[.int .i64 S, .bool pl, .int .i64 bu, .int .i64 da, .int .i64 pa, .int .i64 ch] := Blk.made _ _ _
  have hb3 : Below w2.heap.size w2 (w2.alloc (.cells #[.int .i64 S, .bool pl, .int .i64 bu, .int .i64 da, .int .i64 pa, .int .i64 ch] 25)) := bel_alloc0 (Below.refl _ _)
  generalize w2.alloc (.cells #[.int .i64 S, .bool pl, .int .i64 bu, .int .i64 da, .int .i64 pa, .int .i64 ch] 25) = w3 at *
  have B3 : Hid (Below w.heap.size w w3) := bel_step0 hb3 B2.out
  have E2 := Lib.hid (D2.out w3 B3.out)
  have HO3 : Hid (Row w3 w2.heap.size A2 ol.length 4 (recF ol)) := HO2.out.below hb3
  have HBX := Lib.hid hbx
  have zs3 := hb3.size
  clear hb3 D2 B2 HO2 hbx
  refine E2.out.mono ?_
  rintro e w4 ⟨v4, rfl, ho4, hb4⟩
  obtain ⟨A4, c4, rfl⟩ := own_shape ho4
  have B4 : Hid (Below w.heap.size w w4) := bel_step0 hb4 B3.out
  have hbx4 := HBX.out.step hb4
  have hlt4 := hbx4.lt
  have k0 := hbx4.cell 0; have k1 := hbx4.cell 1; have k2 := hbx4.cell 2; have k3 := hbx4.cell 3; have k4 := hbx4.cell 4; have k5 := hbx4.cell 5; simp only [List.getElem?_toArray, List.getElem?_cons_zero, List.getElem?_cons_succ] at k0 k1 k2 k3 k4 k5
  have HO4 := Lib.hid (own_recs ho4)
  have HO5 : Hid (Row w4 w2.heap.size A2 ol.length 4 (recF ol)) := HO3.out.below (hb4.mono zs3)
  have DX : Hid (∀ wx, Below w4.heap.size w4 wx → Calls Tryz.prog 21 #[.slice A2 ol.length c2, .slice A4 ol.length c4] wx fun e w' => e = .returned (.bool true) ∧ Below wx.heap.size wx w') := fun wx hx =>
    DS.out wx A2 c2 A4 c4 ol HL.out ((HO5.out.below (hx.mono (by omega))).mono (by have := hx.size; omega)) ((HO4.out.below hx).mono hx.size)
  have HE := opt_eql pl pl S S bu bu da da pa pa ch ch
  have hd : decide (S = S ∧ pl = pl ∧ bu = bu ∧ da = da ∧ pa = pa ∧ ch = ch) = true := decide_eq_true ⟨rfl, rfl, rfl, rfl, rfl, rfl⟩
  rw [hd] at HE
  clear hd hb4 ho4 E2 B3 HO3 HBX DS HO4 HO5 hbx4 zs3
  go_wp2_with fail
  refine (DX.out _ (bel_alloc0 (Below.refl _ _))).mono ?_
  rintro e w5 ⟨rfl, hb5⟩
  have B5 : Hid (Below w.heap.size w w5) := bel_step0 hb5 (bel_alloc B4.out.size B4.out)
  clear hb5 DX
  go_wp2_with fail
  go_ret
  exact ⟨rfl, B5.out⟩
end Go.Proofs.YtmgjgkdbagbleaaGreatDoor.One
