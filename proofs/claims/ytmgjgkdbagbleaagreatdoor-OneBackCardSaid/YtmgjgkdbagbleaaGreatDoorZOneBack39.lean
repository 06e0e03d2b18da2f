/-
  The walk of one.reader's block. The log of an archive of version 1: the plain form (the walk of reader.log is still to be written). Archives of version 1 unpacked: the plain form; what was packed is unpacked; what was turned has a wrong sum. No walk. The walk of one.reader's log. The walk of one.Unpack. The walk of the law OneBack; the archive's length.
-/
import Derived.Test.YtmgjgkdbagbleaaGreatDoorZOneBack30
import Derived.Test.YtmgjgkdbagbleaaGreatDoorZOneBack29
import Derived.Test.YtmgjgkdbagbleaaGreatDoorZOneBack36
import Derived.Test.YtmgjgkdbagbleaaGreatDoorZOneBack38
import Derived.Test.YtmgjgkdbagbleaaGreatDoorZOneBack6
namespace Go.Proofs.YtmgjgkdbagbleaaGreatDoor.One
open Go.RowKit Go.Proofs.YtmgjgkdbagbleaaGreatDoor.Mem Go.Proofs.YtmgjgkdbagbleaaGreatDoor.Own Go.Proofs.YtmgjgkdbagbleaaGreatDoor.Canon Go.Proofs.YtmgjgkdbagbleaaGreatDoor.NumPut Go.Proofs.YtmgjgkdbagbleaaGreatDoor.Nums Go.Proofs.YtmgjgkdbagbleaaGreatDoor.Opts
open Go.Proofs.YtmgjgkdbagbleaaGreatDoor.Recs Go.Proofs.YtmgjgkdbagbleaaGreatDoor.Block
open Go.Proofs.YtmgjgkdbagbleaaGreatDoor.Crc (row_num_drop row_num_take run_cuth' TabAt)
def blkE (x : List Nat) : Int := if opE x ≠ 0 then opE x else if (readRecs (opO x)).2 ≠ 0 then (readRecs (opO x)).2 else if (readRecs (opO x)).1.length = 0 then 2 else 0
def blkO (x : List Nat) : List Rec := if blkE x = 0 then (readRecs (opO x)).1 else []
theorem Held.cut {w : World} {A : Option Addr} {c k : Nat} {ls : List Nat} (h : Held w A c ls) (hk : k ≤ ls.length) : Held w (cutA A k c 1) (c - k) (ls.drop k) := by
  refine ⟨?_, ?_, fun e => ?_⟩
  · rw [List.length_drop]; exact row_num_drop h.row hk h.cap
  · rw [List.length_drop]; have := h.cap; omega
  · have := h.none (cutA_some e)
    rw [List.length_drop]
    omega
set_option maxHeartbeats 2000000 in
set_option maxRecDepth 100000 in
theorem block_any (w : World) (r g base : Nat) (bs : List Nat) (A : Option Addr) (c at_ : Nat) (X : Option Addr) (d : Nat) (u2 u3 u4 u5 u6 u7 u8 u9 : Value) (hle : bs.length ≤ 100000) (h8 : ∀ x ∈ bs, x ≤ 255) (ht : TabAt w) (hX : Held w X d bs) (h : Cur w g base bs A c at_ 0) (hr : Blk w r 95 #[.pointer (some ⟨g, 0, none⟩), .slice X bs.length d, u2, u3, u4, u5, u6, u7, u8, u9]) :
    Calls Tryz.prog 132 #[.pointer (some ⟨r, 0, none⟩)] w fun e w' => ∃ v, e = .returned (.tuple #[v, .int .i64 (blkE (bs.drop at_))]) ∧
      w'.ownsRow w.heap.size 77 4 v (blkO (bs.drop at_)).length (recL (blkO (bs.drop at_))) ∧ (blkE (bs.drop at_) = 0 → Cur w' g base bs A c (at_ + opA (bs.drop at_)) 0) ∧ Kept (Apart g r w) w w' ∧ Blk w' r 95 #[.pointer (some ⟨g, 0, none⟩), .slice X bs.length d, u2, u3, u4, u5, u6, u7, u8, u9] := by
  have hrl := hr.lt
  have hrg : r ≠ g := Blk.apart hr h.blk (by decide)
  have hat := h.le
  have x0 := hr.cell 0
  have x1 := hr.cell 1
  simp only [List.getElem?_toArray, List.getElem?_cons_zero, List.getElem?_cons_succ] at x0 x1
  have ks := fun wx => run_cut (P := Tryz.prog) (t := 22) (s := 1) Tryz.underlying22 (fun _ => by kernel_rfl) X bs.length d .i64 (at_ : Int) at_ rfl hat wx
  have hx8 : ∀ x ∈ bs.drop at_, x ≤ 255 := fun x hx => h8 x (List.mem_of_mem_drop hx)
  have hxl : (bs.drop at_).length = bs.length - at_ := List.length_drop
  have D1 : Hid (∀ wx, Below w.heap.size w wx → Calls Tryz.prog 175 #[.pointer (some ⟨g, 0, none⟩)] wx fun e' w' => e' = .returned (.int .i64 (at_ : Nat)) ∧ w' = wx) := fun wx hb => at_any wx g base bs A c at_ 0 (h.step hb)
  have D2 : Hid (∀ wx, Below w.heap.size w wx → Calls Tryz.prog 155 #[.slice (cutA X at_ d 1) (bs.length - at_) (d - at_)] wx (ReadPost (bs.drop at_) wx)) := fun wx hb => by
    have hH := (hX.step hb).cut hat
    refine read_any wx (bs.drop at_) _ _ _ hxl (by omega) (by have := hH.cap; omega) (fun e => by have := hH.none e; omega) (fun h0 => row_head5 hH.row (by omega)) hx8 (ht.step hb) ?_
    have h5 := hH.row
    rw [hxl] at h5
    exact h5
  have KP : Hid (∀ wx, Below w.heap.size w wx → wx.cell? ⟨r, 0, none⟩ = some (.pointer (some ⟨g, 0, none⟩)) ∧ wx.cell? ⟨r, 1, none⟩ = some (.slice X bs.length d)) := fun wx hb => ⟨(hb.cell (p := ⟨r, 0, none⟩) hrl).trans x0, (hb.cell (p := ⟨r, 1, none⟩) hrl).trans x1⟩
  unfold ReadPost at D2
  have hol := opO_le hx8
  have ho8 := opO_u8 hx8
  have hob := op_bounds hx8
  rw [hxl] at hob
  generalize bs.drop at_ = x at *
  have F1 : Hid (opE x ≠ 0 → blkE x = opE x ∧ blkO x = []) := fun h => by
    have e : blkE x = opE x := if_pos h
    exact ⟨e, by unfold blkO; rw [if_neg (by rw [e]; exact h)]⟩
  have F2 : Hid (opE x = 0 → (readRecs (opO x)).2 ≠ 0 → blkE x = (readRecs (opO x)).2 ∧ blkO x = []) := fun h h2 => by
    have e : blkE x = (readRecs (opO x)).2 := by unfold blkE; rw [if_neg (by simpa using h), if_pos h2]
    exact ⟨e, by unfold blkO; rw [if_neg (by rw [e]; exact h2)]⟩
  have F3 : Hid (opE x = 0 → (readRecs (opO x)).2 = 0 → (readRecs (opO x)).1.length = 0 → blkE x = 2 ∧ blkO x = []) := fun h h2 h3 => by
    have e : blkE x = 2 := by unfold blkE; rw [if_neg (by simpa using h), if_neg (by simpa using h2), if_pos h3]
    exact ⟨e, by unfold blkO; rw [if_neg (by rw [e]; decide)]⟩
  have F4 : Hid (opE x = 0 → (readRecs (opO x)).2 = 0 → (readRecs (opO x)).1.length ≠ 0 → blkE x = 0 ∧ blkO x = (readRecs (opO x)).1) := fun h h2 h3 => by
    have e : blkE x = 0 := by unfold blkE; rw [if_neg (by simpa using h), if_neg (by simpa using h2), if_neg h3]
    exact ⟨e, by unfold blkO; rw [if_pos e]⟩
  generalize blkE x = E0 at *
  generalize blkO x = O0 at *
  generalize opA x = oa at *
  have H := Lib.hid h
  have HR := Lib.hid hr
  have HOB := Lib.hid hob
  have HO8 := Lib.hid ho8
  have HOL : Hid ((opO x).length ≤ 100000) := by show _ ≤ _; omega
  clear hX h hr hx8 hxl ht hob ho8 hol
  generalize hm : bs.length - at_ = mm at *
  have HM := Lib.hid hm
  clear hm
  go_enter Tryz.func132, Tryz.ntmps132
  go_upto_region 1 with fail
  have b0 : Below w.heap.size w w.drew := (Below.refl _ _).drew
  go_region_held3 (fun wx => wx.cell? ⟨r, 0, none⟩ = some (.pointer (some ⟨g, 0, none⟩)) ∧ wx.cell? ⟨r, 1, none⟩ = some (.slice X bs.length d)) (first | exact ⟨x0, x1⟩ | exact KP.out _ (by assumption)) (first | (go_at_call 155; (with_reducible refine (D2.out _ (by assumption)).mono ?_); rintro e' w' ⟨v, rfl, hown, hb⟩; have bN : Below w.heap.size w w' := bel_step (by assumption) (Below.size (by assumption)) (by assumption)) | (go_at_call 175; (with_reducible refine (D1.out _ (by assumption)).mono ?_); rintro e' w' ⟨rfl, rfl⟩))
  obtain ⟨va, vc, rfl⟩ := own_shape hown
  have hgl := H.out.blk.lt
  have hc1 := H.out.step bN
  have br1 := HR.out.step bN
  have y0 := br1.cell 0
  simp only [List.getElem?_toArray, List.getElem?_cons_zero] at y0
  have HC1 := Lib.hid hc1
  have BR1 := Lib.hid br1
  have HB := Lib.hid bN
  have HO : Hid (w'.ownsRow w.heap.size 5 1 (.slice va (opO x).length vc) (opO x).length (numL .u8 (opO x))) := hown
  clear hown hb b0 bN hc1 br1 D1 D2 KP x0 x1 ks
  by_cases he : opE x = 0
  · have hoA := (HOB.out he).1
    have hEA : takeA bs at_ 0 oa = at_ + oa := (takeA0 _ _ _).trans (if_neg (by rw [HM.out]; omega))
    have hEE : takeE bs at_ 0 oa = 0 := (takeE0 _ _ _).trans (if_neg (by rw [HM.out]; omega))
    have DT := Lib.hid (take_any w' g base bs A c at_ 0 oa hle (by have := HM.out; omega) HC1.out)
    unfold TakePost at DT
    rw [hEA, hEE] at DT
    have F2 := Lib.hid (F2.out he)
    have F3 := Lib.hid (F3.out he)
    have F4 := Lib.hid (F4.out he)
    have g1 : (opE x != 0) = false := by simp [he]
    clear hEA hEE HOB he F1
    go_wp2_with fail
    refine DT.out.mono ?_
    rintro e w2 ⟨vt, rfl, hownt, hc2, hk2⟩
    have HO2 : Hid (w2.ownsRow w.heap.size 5 1 (.slice va (opO x).length vc) (opO x).length (numL .u8 (opO x))) := own_kept HO.out (fun y hy => hk2.block y ⟨(World.ownsRow.lt HO.out y hy).2, by have := (World.ownsRow.lt HO.out y hy).1; omega⟩)
    have HK2 : Hid (Kept (Apart g r w) w w2) := (Kept.of_below HB.out (fun y hy => hy.1)).trans ⟨hk2.os, hk2.tape, hk2.output, hk2.size, fun y hy => hk2.block y ⟨Nat.lt_of_lt_of_le hy.1 HB.out.size, hy.2.1⟩⟩
    have HR2 : Hid (Blk w2 r 95 #[.pointer (some ⟨g, 0, none⟩), .slice X bs.length d, u2, u3, u4, u5, u6, u7, u8, u9]) := (hk2.block r ⟨Nat.lt_of_lt_of_le hrl HB.out.size, hrg⟩).trans BR1.out
    have DR := Lib.hid (recsread_any w2 va (opO x).length vc (opO x) rfl HOL.out HO8.out (own_none HO2.out) (own_row HO2.out))
    unfold RecsPost at DR
    have HC2 := Lib.hid hc2
    generalize readRecs (opO x) = R at *
    generalize (opO x).length = ol at *
    obtain ⟨rl, re⟩ := R
    simp only at DR ⊢
    clear hownt hc2 hk2 DT HO HO2 HOL HC1
    by_cases hre : re = 0
    · subst hre
      by_cases hl : rl.length = 0
      · obtain ⟨rfl, rfl⟩ := F3.out rfl hl
        have g2 : (((rl.length : Nat) : Int) == 0) = true := by rw [hl]; rfl
        clear F2 F3 F4
        rw [hl] at DR
        go_wp2_with fail
        refine DR.out.mono ?_
        rintro e w3 ⟨v3, rfl, hown3, hb3⟩
        obtain ⟨va3, vc3, rfl⟩ := own_shape hown3
        have HB3 := Lib.hid hb3
        clear hown3 hb3 DR
        go_wp2_with fail
        go_ret2
        exact ⟨_, rfl, World.ownsRow_nil _ _ _ _, fun h => absurd h (by decide), HK2.out.trans (Kept.of_below HB3.out (fun y hy => Nat.lt_of_lt_of_le hy.1 HK2.out.size)), (HB3.out.block r (Nat.lt_of_lt_of_le hrl HK2.out.size)).trans HR2.out⟩
      · obtain ⟨rfl, rfl⟩ := F4.out rfl hl
        have g2 : (((O0.length : Nat) : Int) == 0) = false := beq_eq_false_iff_ne.2 (by omega)
        have g4 : decide (O0 = []) = false := by simp; intro h; simp [h] at hl
        clear F2 F3 F4 hl
        go_wp2_with fail
        refine DR.out.mono ?_
        rintro e w3 ⟨v3, rfl, hown3, hb3⟩
        obtain ⟨va3, vc3, rfl⟩ := own_shape hown3
        have HB3 := Lib.hid hb3
        have HO3 := Lib.hid hown3
        clear hown3 hb3 DR
        go_wp2_with fail
        go_ret2
        exact ⟨_, rfl, own_mono HO3.out HK2.out.size, by first | exact HC2.out.step HB3.out | exact fun _ => HC2.out.step HB3.out, HK2.out.trans (Kept.of_below HB3.out (fun y hy => Nat.lt_of_lt_of_le hy.1 HK2.out.size)), (HB3.out.block r (Nat.lt_of_lt_of_le hrl HK2.out.size)).trans HR2.out⟩
    · have g2 : (re != 0) = true := by simpa using hre
      have HRE := Lib.hid hre
      obtain ⟨rfl, rfl⟩ := F2.out hre
      clear F2 F3 F4 hre
      go_wp2_with fail
      refine DR.out.mono ?_
      rintro e w3 ⟨v3, rfl, hown3, hb3⟩
      obtain ⟨va3, vc3, rfl⟩ := own_shape hown3
      have HB3 := Lib.hid hb3
      clear hown3 hb3 DR
      go_wp2_with fail
      go_ret2
      exact ⟨_, rfl, World.ownsRow_nil _ _ _ _, fun h => absurd h HRE.out, HK2.out.trans (Kept.of_below HB3.out (fun y hy => Nat.lt_of_lt_of_le hy.1 HK2.out.size)), (HB3.out.block r (Nat.lt_of_lt_of_le hrl HK2.out.size)).trans HR2.out⟩
  · obtain ⟨e1, rfl⟩ := F1.out he
    subst e1
    have g1 : (opE x != 0) = true := by simpa using he
    clear F1 F2 F3 F4 HOB
    have HE := Lib.hid he
    clear he
    go_wp2_with fail
    go_ret2
    exact ⟨_, rfl, World.ownsRow_nil _ _ _ _, fun h => absurd h HE.out, Kept.of_below HB.out (fun y hy => hy.1), BR1.out⟩
end Go.Proofs.YtmgjgkdbagbleaaGreatDoor.One
namespace Go.Proofs.YtmgjgkdbagbleaaGreatDoor.One
open Go.Proofs.YtmgjgkdbagbleaaGreatDoor.Recs Go.Proofs.YtmgjgkdbagbleaaGreatDoor.Block Go.Proofs.YtmgjgkdbagbleaaGreatDoor.Nums
def logGo (bs : List Nat) : Nat → Nat → List Rec → List Rec × Int × Nat
  | 0, at_, acc => (acc, 0, at_)
  | k + 1, at_, acc => if blkE (bs.drop at_) ≠ 0 then ([], blkE (bs.drop at_), at_) else logGo bs k (at_ + opA (bs.drop at_)) (acc ++ blkO (bs.drop at_))
theorem readR_len {bs : List Nat} (h8 : ∀ x ∈ bs, x ≤ 255) : ∀ (f at_ : Nat) (acc : List Rec), at_ ≤ bs.length → acc.length ≤ at_ → (readR f bs at_ acc).1.length ≤ bs.length
  | 0, at_, acc, h, ha => by unfold readR; exact Nat.le_trans ha h
  | f + 1, at_, acc, h, ha => by
    unfold readR
    split
    · exact Nat.le_trans ha h
    · split
      · simp
      · rename_i h1 h2
        have hs := recR_spec h8 h 0
        have h3 := hs.2.1 (by omega)
        refine readR_len h8 f _ _ hs.1 ?_
        rw [List.length_append, List.length_singleton]
        omega
theorem blkO_len {x : List Nat} (h8 : ∀ y ∈ x, y ≤ 255) : (blkO x).length ≤ max 32768 x.length := by
  unfold blkO
  split
  · exact Nat.le_trans (readR_len (opO_u8 h8) _ 0 [] (Nat.zero_le _) (Nat.le_refl _)) (opO_le h8)
  · simp
end Go.Proofs.YtmgjgkdbagbleaaGreatDoor.One
namespace Go.Proofs.YtmgjgkdbagbleaaGreatDoor.One
open Go.Proofs.YtmgjgkdbagbleaaGreatDoor.Recs Go.Proofs.YtmgjgkdbagbleaaGreatDoor.Block Go.Proofs.YtmgjgkdbagbleaaGreatDoor.Nums Go.Proofs.YtmgjgkdbagbleaaGreatDoor.NumPut Go.Proofs.YtmgjgkdbagbleaaGreatDoor.Opts Go.Proofs.YtmgjgkdbagbleaaGreatDoor.Crc
def logR (bs : List Nat) (N M a : Nat) : List Rec × Int :=
  if (logGo bs M a []).2.1 ≠ 0 then ([], (logGo bs M a []).2.1) else if 0 < bs.length - (logGo bs M a []).2.2 ∨ (logGo bs M a []).1.length ≠ N then ([], 2) else if chkE (logGo bs M a []).1 ≠ 0 then ([], chkE (logGo bs M a []).1) else ((logGo bs M a []).1, 0)
def opt0 : Opt := ⟨0, false, 0, 0, 0, 0⟩
def unR (bs : List Nat) : List Rec × Int := logR (wholeO bs) (hN (wholeO bs)) (hM (wholeO bs)) (hA5 (wholeO bs))
def unE (bs : List Nat) : Int := if wholeE bs ≠ 0 then wholeE bs else if headE (wholeO bs) ≠ 0 then headE (wholeO bs) else (unR bs).2
def unO (bs : List Nat) : Opt := if unE bs = 0 then hO (wholeO bs) else opt0
def unL (bs : List Nat) : List Rec := if unE bs = 0 then (unR bs).1 else []
def unN (bs : List Nat) : Nat := if unE bs = 0 then hM (wholeO bs) else 0
theorem scan64 : ∀ (x i acc : Nat) (rest : List Nat), i ≤ 9 → x * 2 ^ (7 * i) < 18446744073709551616 → (0 < i → 0 < x) → scanP (numB x ++ rest) i acc = (acc + x * 2 ^ (7 * i), i + (numB x).length, 0) := by
  intro x
  induction x using Nat.strongRecOn with
  | _ x ih =>
    intro i acc rest hl hx hi
    by_cases h : x < 128
    · have h9 : i = 9 → x = 1 := fun e => by
        subst e
        have := hi (by omega)
        have e9 : (2 : Nat) ^ (7 * 9) = 9223372036854775808 := by decide
        rw [e9] at hx
        omega
      rw [numB_low h]
      rw [List.cons_append, List.nil_append, scanP, if_neg (by omega), if_pos h, Nat.mod_eq_of_lt h]
      rfl
    · have hb := big_step hx (by omega)
      rw [numB_high h]
      rw [List.cons_append, scanP, if_neg (by omega), if_neg (by omega), ih (x / 128) (by omega) (i + 1) _ rest (by omega) hb.2 (by omega)]
      have e1 : (x % 128 + 128) % 128 = x % 128 := by omega
      have e2 : 2 ^ (7 * (i + 1)) = 128 * 2 ^ (7 * i) := by rw [show 7 * (i + 1) = 7 * i + 7 by omega, Nat.pow_add]; omega
      have e3 : x * 2 ^ (7 * i) = x % 128 * 2 ^ (7 * i) + x / 128 * (128 * 2 ^ (7 * i)) := by
        rw [← Nat.mul_assoc, ← Nat.add_mul]
        congr 1
        omega
      rw [e1, e2, e3, List.length_cons]
      simp only [Prod.mk.injEq, and_true]
      omega
theorem scan64' {x : Nat} (h : x < 18446744073709551616) (rest : List Nat) : scanP (numB x ++ rest) 0 0 = (x, (numB x).length, 0) := by
  rw [scan64 x 0 0 rest (by omega) (by simpa using h) (by omega)]
  simp
theorem lim_num {x most : Nat} (h : x ≤ most) (hm : most ≤ 1000000000) (rest : List Nat) : limP most (numB x ++ rest) = (x, (numB x).length, 0) := by
  unfold limP
  rw [scan64' (by omega) rest]
  simp
  omega
theorem txt_back {s : ByteArray} (h : s.size ≤ 4000) (rest : List Nat) : txtP 4000 (textB s ++ rest) = (sB s, (textB s).length, 0) := by
  have hl : (sB s).length = s.size := sB_length s
  unfold txtP textB
  rw [List.append_assoc, lim_num h (by omega)]
  simp only [List.length_append, hl, List.drop_left]
  rw [if_neg (by simp), if_neg (by omega), ← hl, List.take_left]
theorem drop_add {bs a b : List Nat} {k : Nat} (h : bs.drop k = a ++ b) : bs.drop (k + a.length) = b := by
  rw [← List.drop_drop, h, List.drop_left]
theorem recR_back {bs rest : List Nat} {k : Nat} {r : Rec} (h : bs.drop k = oneB true r ++ rest) (hr : RecOk r) (hl : longB r = false) : recR bs k 0 = (r, k + (oneB true r).length, 0) := by
  obtain ⟨h1, h2⟩ := longB_false hl
  obtain ⟨t0, t1, t2, t3⟩ := hr
  have hh : oneB true r ++ rest = numB r.time.toNat ++ (r.level.toNat :: (textB r.source ++ (textB r.text ++ rest))) := by
    unfold oneB headB
    simp
  have q0 : bs.drop k = numB r.time.toNat ++ (r.level.toNat :: (textB r.source ++ (textB r.text ++ rest))) := h.trans hh
  have q1 := drop_add q0
  have q1' : bs.drop (k + (numB r.time.toNat).length) = [r.level.toNat] ++ (textB r.source ++ (textB r.text ++ rest)) := q1
  have q2 := drop_add q1'
  rw [List.length_singleton] at q2
  have q3 := drop_add q2
  have eV : numV bs k 0 = r.time.toNat := by unfold numV; rw [if_neg (by simp), q0, scan64' (by omega)]
  have eA : numA bs k 0 = k + (numB r.time.toNat).length := by unfold numA; rw [if_neg (by simp), q0, scan64' (by omega)]
  have eE : numE bs k 0 = 0 := by unfold numE; rw [if_neg (by simp), q0, scan64' (by omega)]
  have hlen : k + (numB r.time.toNat).length < bs.length := by
    have := congrArg List.length q1'
    simp at this
    omega
  have eB : byteV bs (k + (numB r.time.toNat).length) 0 = r.level.toNat := by
    unfold byteV
    have e : (bs.drop (k + (numB r.time.toNat).length))[0]? = bs[k + (numB r.time.toNat).length]? := by rw [List.getElem?_drop, Nat.add_zero]
    rw [if_neg (by simp), List.getD_eq_getElem?_getD, ← e, q1']
    rfl
  have eTA : takeA bs (k + (numB r.time.toNat).length) 0 1 = k + (numB r.time.toNat).length + 1 := by rw [takeA0, if_neg (by omega)]
  have eTE : takeE bs (k + (numB r.time.toNat).length) 0 1 = 0 := by rw [takeE0, if_neg (by omega)]
  have s1 : txtP 4000 (bs.drop (k + (numB r.time.toNat).length + 1)) = (sB r.source, (textB r.source).length, 0) := by rw [q2, txt_back h1]
  have s2 : txtP 4000 (bs.drop (k + (numB r.time.toNat).length + 1 + (textB r.source).length)) = (sB r.text, (textB r.text).length, 0) := by rw [q3, txt_back h2]
  have z1 : textV 4000 bs (k + (numB r.time.toNat).length + 1) 0 = sB r.source := by unfold textV; rw [if_neg (by simp), s1]
  have z2 : textA 4000 bs (k + (numB r.time.toNat).length + 1) 0 = k + (numB r.time.toNat).length + 1 + (textB r.source).length := by unfold textA; rw [if_neg (by simp), s1]
  have z3 : textE 4000 bs (k + (numB r.time.toNat).length + 1) 0 = 0 := by unfold textE; rw [if_neg (by simp), s1]
  have y1 : textV 4000 bs (k + (numB r.time.toNat).length + 1 + (textB r.source).length) 0 = sB r.text := by unfold textV; rw [if_neg (by simp), s2]
  have y2 : textA 4000 bs (k + (numB r.time.toNat).length + 1 + (textB r.source).length) 0 = k + (numB r.time.toNat).length + 1 + (textB r.source).length + (textB r.text).length := by unfold textA; rw [if_neg (by simp), s2]
  have y3 : textE 4000 bs (k + (numB r.time.toNat).length + 1 + (textB r.source).length) 0 = 0 := by unfold textE; rw [if_neg (by simp), s2]
  unfold recR
  simp only [eV, eA, eE, eB, eTA, eTE, z1, z2, z3, y1, y2, y3, strN_sB]
  have hlen2 : (oneB true r).length = (numB r.time.toNat).length + 1 + (textB r.source).length + (textB r.text).length := by
    unfold oneB headB
    simp
    omega
  rw [hlen2, show ((r.time.toNat : Nat) : Int) = r.time by omega, show ((r.level.toNat : Nat) : Int) = r.level by omega]
  refine Prod.ext rfl (Prod.ext ?_ rfl)
  show k + _ + 1 + _ + _ = k + _
  omega
theorem readR_back {bs : List Nat} : ∀ (l : List Rec) (f k : Nat) (acc : List Rec), bs.drop k = bytesB true l → k ≤ bs.length → bs.length ≤ f + k → (∀ r ∈ l, RecOk r) → (∀ r ∈ l, longB r = false) → readR f bs k acc = (acc ++ l, 0)
  | [], f, k, acc, h, hk, hf, _, _ => by
    have : (bs.drop k).length = 0 := by rw [h]; rfl
    rw [List.length_drop] at this
    rw [readR_end (by omega), List.append_nil]
  | r :: l, f, k, acc, h, hk, hf, hok, hl => by
    have hh : bs.drop k = oneB true r ++ bytesB true l := by rw [h]; rfl
    have h2 := (oneB_len true (hok r (by simp)) (hl r (by simp))).2
    have hlen := congrArg List.length hh
    rw [List.length_append, List.length_drop] at hlen
    obtain ⟨f, rfl⟩ : ∃ f', f = f' + 1 := ⟨f - 1, by omega⟩
    rw [readR, if_neg (by omega), recR_back hh (hok r (by simp)) (hl r (by simp)), if_neg (by simp)]
    simp only
    rw [readR_back l f _ _ (drop_add hh) (by omega) (by omega) (fun x hx => hok x (by simp [hx])) (fun x hx => hl x (by simp [hx]))]
    simp
theorem readRecs_back {l : List Rec} (hok : ∀ r ∈ l, RecOk r) (hl : ∀ r ∈ l, longB r = false) : readRecs (bytesB true l) = (l, 0) := by
  unfold readRecs
  rw [readR_back l _ 0 [] (by simp) (by omega) (by omega) hok hl]
  rfl
theorem blk_back {l : List Rec} (pl : Bool) (more : List Nat) (hok : ∀ r ∈ l, RecOk r) (hl : ∀ r ∈ l, longB r = false) (h0 : l ≠ []) (hb : (bytesB true l).length ≤ 32768) :
    blkE (frameB (bytesB true l) pl ++ more) = 0 ∧ blkO (frameB (bytesB true l) pl ++ more) = l ∧ opA (frameB (bytesB true l) pl ++ more) = (frameB (bytesB true l) pl).length := by
  obtain ⟨f1, f2, f3⟩ := frame_back pl more (bytesB_u8 true hok) hb
  have hE : blkE (frameB (bytesB true l) pl ++ more) = 0 := by
    unfold blkE
    rw [f1, f2, readRecs_back hok hl]
    simp only [ne_eq, not_true, if_false]
    rw [if_neg]
    intro h
    exact h0 (List.eq_nil_of_length_eq_zero h)
  refine ⟨hE, ?_, f3⟩
  unfold blkO
  rw [if_pos hE, f2, readRecs_back hok hl]
theorem log_back {bs : List Nat} (pl : Bool) : ∀ (cs : List Nat) (l : List Rec) (k : Nat) (acc : List Rec), bs.drop k = (framesP pl cs l).flatten → k ≤ bs.length → cs.sum = l.length → (∀ c ∈ cs, 1 ≤ c) → (∀ r ∈ l, RecOk r) → (∀ r ∈ l, longB r = false) → (bytesB true l).length ≤ 32768 → logGo bs cs.length k acc = (acc ++ l, 0, bs.length)
  | [], l, k, acc, h, hk, hs, _, _, _, _ => by
    have : (bs.drop k).length = 0 := by rw [h]; rfl
    rw [List.length_drop] at this
    have hl : l = [] := List.eq_nil_of_length_eq_zero (by simpa using hs.symm)
    have e : k = bs.length := by omega
    rw [hl, e]
    simp [logGo]
  | c :: cs, l, k, acc, h, hk, hs, hp, hok, hl, hb => by
    have hc := hp c (by simp)
    rw [List.sum_cons] at hs
    have hh : bs.drop k = frameB (bytesB true (l.take c)) pl ++ (framesP pl cs (l.drop c)).flatten := by rw [h]; rfl
    have hsp := bytesB_split true l c
    have h0 : l.take c ≠ [] := fun e => by
      have := congrArg List.length e
      rw [List.length_take, List.length_nil] at this
      omega
    obtain ⟨b1, b2, b3⟩ := blk_back pl (framesP pl cs (l.drop c)).flatten (l := l.take c) (fun r hr => hok r (List.mem_of_mem_take hr)) (fun r hr => hl r (List.mem_of_mem_take hr)) h0 (by omega)
    have hlen := congrArg List.length hh
    rw [List.length_append, List.length_drop] at hlen
    rw [List.length_cons, logGo, hh, b1, if_neg (by simp), b2, b3, log_back pl cs (l.drop c) _ _ (drop_add hh) (by omega) (by rw [List.length_drop]; omega) (fun x hx => hp x (by simp [hx])) (fun r hr => hok r (List.mem_of_mem_drop hr)) (fun r hr => hl r (List.mem_of_mem_drop hr)) (by omega)]
    rw [List.append_assoc, List.take_append_drop]
def tailO (o : Opt) (l : List Rec) : List Nat := numB o.block.toNat ++ ([flagN o.plain] ++ (numB l.length ++ (numB (countsO o l).length ++ (framesP o.plain (countsO o l) l).flatten)))
theorem pack_whole (o : Opt) (l : List Rec) : wholeE (packB o l) = 0 ∧ wholeO (packB o l) = tailO o l := by
  obtain ⟨t, ht⟩ : ∃ t, bodyO o l = 70 :: 73 :: 82 :: 75 :: 1 :: t := ⟨_, rfl⟩
  have hd : (bodyO o l).drop 5 = tailO o l := by
    unfold bodyO headO tailO markB
    simp
  have hlen : (packB o l).length - 4 = (bodyO o l).length := by unfold packB; rw [List.length_append]; exact Nat.add_sub_cancel ..
  have h4 : 4 ≤ (packB o l).length := by unfold packB; rw [List.length_append]; exact Nat.le_add_left ..
  have c1 : (packB o l).take (bodyO o l).length = bodyO o l := by unfold packB; exact List.take_left
  have c2 : (packB o l).drop (bodyO o l).length = tailN (sumN (bodyO o l)) := by unfold packB; exact List.drop_left
  have hC : cutE (packB o l) = 0 := by unfold cutE; rw [if_neg (by omega), hlen, c1, c2, if_pos rfl]
  have hO : cutO (packB o l) = bodyO o l := by unfold cutO; rw [if_pos hC, hlen, c1]
  have hp : packB o l = 70 :: 73 :: 82 :: 75 :: 1 :: (t ++ tailN (sumN (bodyO o l))) := by unfold packB; rw [ht]; rfl
  have h5 : ¬ (packB o l).length < 5 := by rw [hp]; simp
  obtain ⟨m1, m2⟩ := marked_ok h5 (by rw [hp]; rfl) (by rw [hp]; simp)
  have mv : markV (packB o l) = 1 := by rw [m2, hp]; rfl
  have hE : wholeE (packB o l) = 0 := by
    unfold wholeE
    rw [m1, mv, hC, hO, ht]
    simp
  refine ⟨hE, ?_⟩
  unfold wholeO
  rw [if_pos hE, hO, hd]
theorem opt_zero {o : Opt} (h : optE o = 0) : o = ⟨o.block, o.plain, 0, 0, 0, 0⟩ := by
  unfold optE at h
  split at h
  · rename_i hc
    obtain ⟨_, h1, h2, h3, h4⟩ := hc
    obtain ⟨a, b, c, d, e, f⟩ := o
    simp only at h1 h2 h3 h4
    subst h1 h2 h3 h4
    rfl
  · cases h
theorem chk_len {l : List Rec} (h : chkE l = 0) : l.length ≤ 20000 := by
  refine Decidable.byContradiction fun hn => ?_
  unfold chkE at h
  rw [if_pos (by omega)] at h
  cases h
theorem head_back {o : Opt} {l : List Rec} {x : List Nat} (hx : x = tailO o l) (ho : optE o = 0) (hk : chkE l = 0) : headE x = 0 ∧ hO x = o ∧ hN x = l.length ∧ hM x = (countsO o l).length ∧ x.drop (hA5 x) = (framesP o.plain (countsO o l) l).flatten ∧ hA5 x ≤ x.length := by
  obtain ⟨b1, b2⟩ := optE_ok ho
  have hn := chk_len hk
  have hg := counts_len o l
  have hf : flagN o.plain ≤ 1 := by unfold flagN; split <;> omega
  have q0 : x.drop 0 = numB o.block.toNat ++ ([flagN o.plain] ++ (numB l.length ++ (numB (countsO o l).length ++ (framesP o.plain (countsO o l) l).flatten))) := by rw [hx]; rfl
  have q1 := drop_add q0
  have q2 := drop_add q1
  have q3 := drop_add q2
  have q4 := drop_add q3
  rw [List.length_singleton] at q2 q3 q4
  rw [Nat.zero_add] at q1 q2 q3 q4
  have a1 : intV 32768 x 0 0 = o.block.toNat := by unfold intV; rw [if_neg (by simp), q0, lim_num (by omega) (by omega)]
  have a2 : intA 32768 x 0 0 = (numB o.block.toNat).length := by unfold intA; rw [if_neg (by simp), q0, lim_num (by omega) (by omega), Nat.zero_add]
  have a3 : intE 32768 x 0 0 = 0 := by unfold intE; rw [if_neg (by simp), q0, lim_num (by omega) (by omega)]
  have hl1 : (numB o.block.toNat).length < x.length := by
    have := congrArg List.length q1
    simp at this
    omega
  have p1 : hP x = flagN o.plain := by
    have e : (x.drop (numB o.block.toNat).length)[0]? = x[(numB o.block.toNat).length]? := by rw [List.getElem?_drop, Nat.add_zero]
    unfold hP byteV
    rw [a2, a3, if_neg (by simp), List.getD_eq_getElem?_getD, ← e, q1]
    rfl
  have p2 : hA2 x = (numB o.block.toNat).length + 1 := by unfold hA2; rw [a2, a3, takeA0, if_neg (by omega)]
  have p3 : hE2 x = 0 := by unfold hE2; rw [a2, a3, takeE0, if_neg (by omega)]
  have p4 : hE3 x = 0 := by unfold hE3; rw [p1, p3, if_neg (by omega)]
  have n1 : hN x = l.length := by unfold hN intV; rw [p2, p4, if_neg (by simp), q2, lim_num (by omega) (by omega)]
  have n2 : hA4 x = (numB o.block.toNat).length + 1 + (numB l.length).length := by unfold hA4 intA; rw [p2, p4, if_neg (by simp), q2, lim_num (by omega) (by omega)]
  have n3 : hE4 x = 0 := by unfold hE4 intE; rw [p2, p4, if_neg (by simp), q2, lim_num (by omega) (by omega)]
  have m1 : hM x = (countsO o l).length := by unfold hM intV; rw [n1, n2, n3, if_neg (by simp), q3, lim_num (by omega) (by omega)]
  have m2 : hA5 x = (numB o.block.toNat).length + 1 + (numB l.length).length + (numB (countsO o l).length).length := by unfold hA5 intA; rw [n1, n2, n3, if_neg (by simp), q3, lim_num (by omega) (by omega)]
  have m3 : hE5 x = 0 := by unfold hE5 intE; rw [n1, n2, n3, if_neg (by simp), q3, lim_num (by omega) (by omega)]
  have oO : hO x = o := by
    unfold hO
    rw [a1, p1, opt_zero ho]
    have e1 : ((o.block.toNat : Nat) : Int) = o.block := by omega
    have e2 : decide (flagN o.plain = 1) = o.plain := by unfold flagN; cases o.plain <;> rfl
    rw [e1, e2]
  refine ⟨by unfold headE; rw [m3, if_neg (by simp), oO, ho], oO, n1, m1, by rw [m2, q4], ?_⟩
  have := congrArg List.length q3
  rw [List.length_drop, List.length_append] at this
  have hp : 0 < (numB (countsO o l).length).length := by
    by_cases h : (countsO o l).length < 128
    · rw [numB_low h]; simp
    · rw [numB_high h]; simp
  omega
theorem un_back {o : Opt} {l : List Rec} (ho : optE o = 0) (hk : chkE l = 0) (hok : ∀ r ∈ l, RecOk r) (hb : (bytesB true l).length ≤ 32768) :
    unE (packB o l) = 0 ∧ unO (packB o l) = o ∧ unL (packB o l) = l := by
  obtain ⟨w1, w2⟩ := pack_whole o l
  obtain ⟨h1, h2, h3, h4, h5, h6⟩ := head_back w2 ho hk
  have hl := chkE_ok hk
  have hg := log_back o.plain (countsO o l) l _ [] h5 h6 (counts_sum o l) (groups_pos _ _) hok hl hb
  have hR : unR (packB o l) = (l, 0) := by
    unfold unR logR
    rw [h3, h4, hg]
    simp [hk]
  have hE : unE (packB o l) = 0 := by unfold unE; rw [w1, h1, hR, if_neg (by simp), if_neg (by simp)]
  refine ⟨hE, by unfold unO; rw [if_pos hE, h2], by unfold unL; rw [if_pos hE, hR]⟩
end Go.Proofs.YtmgjgkdbagbleaaGreatDoor.One
namespace Go.Proofs.YtmgjgkdbagbleaaGreatDoor.One
open Go.RowKit Go.Proofs.YtmgjgkdbagbleaaGreatDoor.Mem Go.Proofs.YtmgjgkdbagbleaaGreatDoor.Own Go.Proofs.YtmgjgkdbagbleaaGreatDoor.Canon Go.Proofs.YtmgjgkdbagbleaaGreatDoor.NumPut Go.Proofs.YtmgjgkdbagbleaaGreatDoor.Nums Go.Proofs.YtmgjgkdbagbleaaGreatDoor.Opts
open Go.Proofs.YtmgjgkdbagbleaaGreatDoor.Recs Go.Proofs.YtmgjgkdbagbleaaGreatDoor.Block
open Go.Proofs.YtmgjgkdbagbleaaGreatDoor.Crc (TabAt)
theorem row_apart {w w' : World} {g r base n : Nat} {X : Option Addr} {f : Nat → Nat → Value} (h : Row w base X n 1 f) (hk : Kept (Apart g r w) w w') (hb : base ≤ w.heap.size) (hg : base ≤ g) (hr : base ≤ r) : Row w' base X n 1 f :=
  h.keep fun p hp => World.cell?_of_block (hk.block p.block ⟨by omega, by omega, by omega⟩)
theorem kept_apart {a w w' : World} {g r : Nat} (h : Kept (Apart g r a) a w) (k : Kept (Apart g r w) w w') : Kept (Apart g r a) a w' :=
  h.trans ⟨k.os, k.tape, k.output, k.size, fun x hx => k.block x ⟨Nat.lt_of_lt_of_le hx.1 h.size, hx.2.1, hx.2.2⟩⟩
theorem tab_apart {w w' : World} {g r base : Nat} (h : TabAt w) (hk : Kept (Apart g r w) w w') (hb : 0 < base) (hg : base ≤ g) (hr : base ≤ r) : TabAt w' := fun i hi =>
  (World.cell?_of_block (hk.block _ ⟨h.lt, by show 0 ≠ g; omega, by show 0 ≠ r; omega⟩)).trans (h i hi)
def LogPost (w : World) (r g : Nat) (R : List Rec × Int) (cs : Array Value) (e : Ending) (w' : World) : Prop :=
  ∃ v, e = .returned (.tuple #[v, .int .i64 R.2]) ∧ w'.ownsRow w.heap.size 77 4 v R.1.length (recL R.1) ∧ Kept (Apart g r w) w w' ∧ Blk w' r 95 cs
theorem one_recL (l : List Rec) : ∀ u ∈ recL l, u.oneCell' = true := by
  intro u hu
  unfold recL at hu
  obtain ⟨r, _, hr⟩ := List.mem_flatMap.1 hu
  simp at hr
  rcases hr with rfl | rfl | rfl | rfl <;> rfl
set_option maxHeartbeats 2000000 in
set_option maxRecDepth 100000 in
theorem log_any (w : World) (r g base : Nat) (bs : List Nat) (A : Option Addr) (c a0 : Nat) (X : Option Addr) (d N M : Nat) (y2 y3 y4 y5 y6 y7 : Value) (hle : bs.length ≤ 100000) (hM : M ≤ 20000) (h8 : ∀ x ∈ bs, x ≤ 255) (ht : TabAt w) (hcap : bs.length ≤ d) (hnil : X = none → bs.length = 0 ∧ d = 0) (hX : Row w base X bs.length 1 (numF .u8 bs)) (hbr : base ≤ r) (hbg : 0 < base) (hbw : base ≤ w.heap.size)
    (h : Cur w g base bs A c a0 0) (hr : Blk w r 95 #[.pointer (some ⟨g, 0, none⟩), .slice X bs.length d, y2, y3, y4, y5, y6, y7, .int .i64 (N : Nat), .int .i64 (M : Nat)]) :
    Calls Tryz.prog 63 #[.pointer (some ⟨r, 0, none⟩)] w (LogPost w r g (logR bs N M a0) #[.pointer (some ⟨g, 0, none⟩), .slice X bs.length d, y2, y3, y4, y5, y6, y7, .int .i64 (N : Nat), .int .i64 (M : Nat)]) := by
  obtain ⟨j0, hj0, hy0, hy1, hy2⟩ := info_parts info_rec
  have hrl := hr.lt
  have hlo := h.lo
  have x9 := hr.cell 9
  simp only [List.getElem?_toArray, List.getElem?_cons_zero, List.getElem?_cons_succ] at x9
  have DB : Hid (∀ wx at_, Kept (Apart g r w) w wx → Cur wx g base bs A c at_ 0 → Blk wx r 95 #[.pointer (some ⟨g, 0, none⟩), .slice X bs.length d, y2, y3, y4, y5, y6, y7, .int .i64 (N : Nat), .int .i64 (M : Nat)] → Calls Tryz.prog 132 #[.pointer (some ⟨r, 0, none⟩)] wx fun e w' => ∃ v, e = .returned (.tuple #[v, .int .i64 (blkE (bs.drop at_))]) ∧
      w'.ownsRow wx.heap.size 77 4 v (blkO (bs.drop at_)).length (recL (blkO (bs.drop at_))) ∧ (blkE (bs.drop at_) = 0 → Cur w' g base bs A c (at_ + opA (bs.drop at_)) 0) ∧ Kept (Apart g r wx) wx w' ∧ Blk w' r 95 #[.pointer (some ⟨g, 0, none⟩), .slice X bs.length d, y2, y3, y4, y5, y6, y7, .int .i64 (N : Nat), .int .i64 (M : Nat)]) := fun wx at_ hk hc hb =>
    block_any wx r g base bs A c at_ X d y2 y3 y4 y5 y6 y7 _ _ hle h8 (tab_apart ht hk hbg hlo hbr) ⟨(row_apart hX hk hbw hlo hbr).mono (Nat.le_trans hbw hk.size), hcap, hnil⟩ hc hb
  have DL : Hid (∀ wx at_, Cur wx g base bs A c at_ 0 → Calls Tryz.prog 133 #[.pointer (some ⟨g, 0, none⟩)] wx fun e w' => e = .returned (.int .i64 (bs.length - at_ : Nat)) ∧ ∃ q, w' = wx.drewN q) := fun wx at_ hc => left_any wx g base bs A c at_ 0 hc
  have DK : Hid (∀ wx B d (l : List Rec), l.length ≤ 9223372036854775807 → Row wx wx.heap.size B l.length 4 (recF l) → Calls Tryz.prog 76 #[.slice B l.length d] wx fun e w' => e = .returned (.int .i64 (chkE l)) ∧ Below wx.heap.size wx w') := fun wx B d l hl hrow => rcheck_any wx B l.length d l rfl hl hrow
  have BL : Hid (∀ at_, (blkO (bs.drop at_)).length ≤ 100000) := fun at_ => by
    have := blkO_len (x := bs.drop at_) (fun y hy => h8 y (List.mem_of_mem_drop hy))
    rw [List.length_drop] at this
    omega
  obtain ⟨LR, hLR⟩ : ∃ LR, LR = logR bs N M a0 := ⟨_, rfl⟩
  rw [← hLR]
  unfold logR at hLR
  obtain ⟨R, hR⟩ : ∃ R, R = logGo bs M a0 [] := ⟨_, rfl⟩
  have HR0 : Hid (logGo bs M a0 [] = R) := hR.symm
  rw [← hR] at hLR
  clear hR
  have H := Lib.hid h
  have HB := Lib.hid hr
  have HLE := Lib.hid hle
  clear h hr h8 ht hX hnil hcap hle
  obtain ⟨rl, re, ra⟩ := R
  simp only at hLR
  have F1 : Hid (re ≠ 0 → LR = ([], re)) := fun h => by rw [hLR, if_pos h]
  have F2 : Hid (re = 0 → (0 < bs.length - ra ∨ rl.length ≠ N) → LR = ([], 2)) := fun h h2 => by rw [hLR, if_neg (by simpa using h), if_pos h2]
  have F3 : Hid (re = 0 → ¬ (0 < bs.length - ra ∨ rl.length ≠ N) → chkE rl ≠ 0 → LR = ([], chkE rl)) := fun h h2 h3 => by rw [hLR, if_neg (by simpa using h), if_neg h2, if_pos h3]
  have F4 : Hid (re = 0 → ¬ (0 < bs.length - ra ∨ rl.length ≠ N) → chkE rl = 0 → LR = (rl, 0)) := fun h h2 h3 => by rw [hLR, if_neg (by simpa using h), if_neg h2, if_neg (by simpa using h3)]
  clear hLR
  obtain ⟨ll, le⟩ := LR
  unfold LogPost
  simp only
  go_enter Tryz.func63, Tryz.ntmps63
  go_wp2_with fail
  go_loopw [4, 12] (fun v i wr => ∃ (k at_ : Nat) (acc : List Rec), i = .int .i64 k ∧ k ≤ M ∧ acc.length ≤ k * 100000 ∧ Hid (logGo bs (M - k) at_ acc = (rl, re, ra)) ∧ Hid (wr.ownsRow w.heap.size 77 4 v acc.length (recL acc)) ∧ Hid (Cur wr g base bs A c at_ 0) ∧ Hid (Blk wr r 95 #[.pointer (some ⟨g, 0, none⟩), .slice X bs.length d, y2, y3, y4, y5, y6, y7, .int .i64 (N : Nat), .int .i64 (M : Nat)]) ∧ Hid (Kept (Apart g r w) w wr)) (fun _ i _ => M - (intOf i).toNat)
  case atStart => exact ⟨0, a0, [], rfl, by omega, by simp, HR0.out, World.ownsRow_nil _ _ _ _, H.out, HB.out, Kept.refl _ _⟩
  case round =>
    obtain ⟨k, at_, acc, rfl, hk, hacc, HG, HO, HC, HBr, HK⟩ := hrel
    have hat := HC.out.le
    obtain ⟨w0, rfl⟩ : ∃ w0 : World, w0 = wr := ⟨_, rfl⟩
    by_cases hlt : k < M
    · have gk : decide ((k : Int) < (M : Int)) = true := by simp; omega
      have gk' : decide (k < M) = true := by simp; omega
      have t2 : IntKind.i64.wrap ((k : Int) + 1) = ((k + 1 : Nat) : Int) := by rw [IntWalk.i64_in _ (by omega)]; omega
      obtain ⟨m, hm⟩ : ∃ m, M - k = m + 1 := ⟨M - k - 1, by omega⟩
      have hm1 : M - (k + 1) = m := by omega
      have hG := HG.out
      rw [hm, logGo] at hG
      have E1 := Lib.hid (DB.out w0 at_ HK.out HC.out HBr.out)
      have bl := BL.out at_
      have HOP : Hid (blkE (bs.drop at_) = blkE (bs.drop at_)) := rfl
      generalize blkE (bs.drop at_) = be at *
      generalize blkO (bs.drop at_) = bo at *
      generalize opA (bs.drop at_) = oa at *
      have HM1 := Lib.hid hm1
      clear hm hm1 HOP HG
      by_cases hb : be = 0
      · subst hb
        have HG2 : Hid (logGo bs m (at_ + oa) (acc ++ bo) = (rl, re, ra)) := by rw [if_neg (by simp)] at hG; exact hG
        clear hG
        go_wp2_with fail
        refine E1.out.mono ?_
        rintro e w1 ⟨v, rfl, ho1, hc1, hk1, hb1⟩
        obtain ⟨A1, c1, rfl⟩ := own_shape ho1
        obtain ⟨A2, c2, rfl⟩ := own_shape HO.out
        have HO1 := Lib.hid ho1
        have HC1 := Lib.hid (hc1 (by first | rfl | trivial))
        have HK1 := Lib.hid hk1
        have HB1 := Lib.hid hb1
        clear ho1 hc1 hk1 hb1 E1
        have HO2 : Hid (w1.ownsRow w.heap.size 77 4 (.slice A2 acc.length c2) acc.length (recL acc)) := own_kept HO.out (fun x hx => HK1.out.block x ⟨(World.ownsRow.lt HO.out x hx).2, fun e => own_blk HO.out HC.out.blk (by decide) (e ▸ hx), fun e => own_blk HO.out HBr.out (by decide) (e ▸ hx)⟩)
        have HKX := Lib.hid (kept_apart HK.out HK1.out)
        have zk := HK.out.size
        have zk1 := HK1.out.size
        clear HO HC HBr
        go_wp2_with (at_builtin; refine wpList_app rfl (.tmp 22) (.tmp 23) 26 rfl w.heap.size 77 j0 _ 4 48 Tryz.underlying26 hj0 hy0 hy1 hy2 rfl (by decide) (.slice A2 acc.length c2) acc.length (recL acc) (by rfl) HO2.out A1 bo.length c1 (recL bo) (by rfl) (src_own2 HO1.out) (one_recL bo) (by unfold maxLen; omega) (by omega) (by omega) ?_; intro v5 w5 hown5 hg5 hat5)
        have hc5 : Cur w5 g base bs A c (at_ + oa) 0 :=
          ⟨HC1.out.blk.grown hg5 (fun e => own_blk HO2.out HC1.out.blk (by decide) e.symm), own_grown HC1.out.own HO2.out (by decide) hg5, HC1.out.le, HC1.out.lo⟩
        have hb5 : Blk w5 r 95 #[.pointer (some ⟨g, 0, none⟩), .slice X bs.length d, y2, y3, y4, y5, y6, y7, .int .i64 (N : Nat), .int .i64 (M : Nat)] := HB1.out.grown hg5 (fun e => own_blk HO2.out HB1.out (by decide) e.symm)
        have hk5 : Kept (Apart g r w) w w5 := HKX.out.grown hg5 (fun b h => by have := h.1; omega) (fun b hb hh => by have := (World.ownsRow.lt HO2.out b hb).1; have := hh.1; omega)
        go_roundw
        case measure => go_light; simp [intOf]; omega
        case rel =>
          go_light
          refine ⟨k + 1, at_ + oa, acc ++ bo, by first | rfl | go_num, by omega, by rw [List.length_append]; omega, by rw [HM1.out]; exact HG2.out, ?_, hc5, hb5, hk5⟩
          rw [recL_app, List.length_append]
          exact hown5
      · have hR : ([], be, at_) = (rl, re, ra) := by rw [if_pos hb] at hG; exact hG
        simp only [Prod.mk.injEq] at hR
        obtain ⟨_, e2, _⟩ := hR
        have hF := F1.out (by rw [← e2]; exact hb)
        simp only [Prod.mk.injEq] at hF
        obtain ⟨rfl, e3⟩ := hF
        obtain rfl : le = be := e3.trans e2.symm
        have g1 : (le != 0) = true := by simpa using hb
        have HBe := Lib.hid hb
        clear hG e2 e3 F1 F2 F3 F4 hb
        go_wp2_with fail
        refine E1.out.mono ?_
        rintro e w1 ⟨v, rfl, ho1, hc1, hk1, hb1⟩
        obtain ⟨A1, c1, rfl⟩ := own_shape ho1
        have HK1 := Lib.hid (kept_apart HK.out hk1)
        have HB1 := Lib.hid hb1
        clear ho1 hc1 hk1 hb1 E1
        go_wp2_with fail
        go_ret2
        exact ⟨_, rfl, World.ownsRow_nil _ _ _ _, HK1.out, HB1.out⟩
    · obtain rfl : k = M := by omega
      have gk : decide ((k : Int) < (k : Int)) = false := by simp
      have gk' : decide (k < k) = false := by simp
      have hG := HG.out
      rw [Nat.sub_self, logGo] at hG
      simp only [Prod.mk.injEq] at hG
      obtain ⟨rfl, rfl, rfl⟩ := hG
      have x0 := HBr.out.cell 0
      have x8 := HBr.out.cell 8
      simp only [List.getElem?_toArray, List.getElem?_cons_zero, List.getElem?_cons_succ] at x0 x8
      have E1 := Lib.hid (DL.out w0 at_ HC.out)
      obtain ⟨A2, c2, rfl⟩ := own_shape HO.out
      have hrow := own_recs HO.out
      have E2 := Lib.hid (fun q => DK.out (w0.drewN q) A2 c2 acc (by omega) (hrow.drewN q))
      have F2 := Lib.hid (F2.out rfl)
      have F3 := Lib.hid (F3.out rfl)
      have F4 := Lib.hid (F4.out rfl)
      have hlf : bs.length - at_ ≤ 100000 := by have := HLE.out; omega
      generalize bs.length - at_ = lf at *
      clear HG F1 DL DK DB hrow hat
      by_cases h1 : 0 < lf
      · have hF := F2.out (.inl h1)
        simp only [Prod.mk.injEq] at hF
        obtain ⟨rfl, rfl⟩ := hF
        have g1 : decide ((0 : Int) < (lf : Int)) = true := by simp; omega
        have g2 : decide (0 < lf) = true := by simp; omega
        clear F2 F3 F4 E2
        go_wp2_with fail
        refine E1.out.mono ?_
        rintro e w1 ⟨rfl, q, rfl⟩
        go_wp2_with fail
        go_ret2
        exact ⟨_, rfl, World.ownsRow_nil _ _ _ _, HK.out.drewN q, HBr.out.drewN q⟩
      · obtain rfl : lf = 0 := by omega
        by_cases h2 : acc.length = N
        · have hno : ¬ ((0 : Nat) < 0 ∨ acc.length ≠ N) := by omega
          have F3 := Lib.hid (F3.out hno)
          have F4 := Lib.hid (F4.out hno)
          have HN := Lib.hid h2
          have g1 : ((acc.length : Int) != (N : Int)) = false := by simp; omega
          clear F2 h1 hno h2
          by_cases h3 : chkE acc = 0
          · have hF := F4.out h3
            simp only [Prod.mk.injEq] at hF
            obtain ⟨rfl, rfl⟩ := hF
            rw [h3] at E2
            clear F3 F4 h3
            go_wp2_with fail
            refine E1.out.mono ?_
            rintro e w1 ⟨rfl, q, rfl⟩
            have E3 := Lib.hid (E2.out q)
            clear E1 E2
            go_wp2_with fail
            refine E3.out.mono ?_
            rintro e w2 ⟨rfl, hb2⟩
            have HB2 := Lib.hid hb2
            clear hb2 E3
            go_wp2_with fail
            go_ret2
            exact ⟨_, rfl, own_kept HO.out (fun x hx => HB2.out.block x (World.ownsRow.lt HO.out x hx).2), (HK.out.drewN q).trans (Kept.of_below HB2.out (fun x hx => Nat.lt_of_lt_of_le hx.1 HK.out.size)), (HBr.out.drewN q).step HB2.out⟩
          · have hF := F3.out h3
            simp only [Prod.mk.injEq] at hF
            obtain ⟨rfl, rfl⟩ := hF
            have g2 : (chkE acc != 0) = true := by simpa using h3
            clear F3 F4 h3
            go_wp2_with fail
            refine E1.out.mono ?_
            rintro e w1 ⟨rfl, q, rfl⟩
            have E3 := Lib.hid (E2.out q)
            clear E1 E2
            go_wp2_with fail
            refine E3.out.mono ?_
            rintro e w2 ⟨rfl, hb2⟩
            have HB2 := Lib.hid hb2
            clear hb2 E3
            go_wp2_with fail
            go_ret2
            exact ⟨_, rfl, World.ownsRow_nil _ _ _ _, (HK.out.drewN q).trans (Kept.of_below HB2.out (fun x hx => Nat.lt_of_lt_of_le hx.1 HK.out.size)), (HBr.out.drewN q).step HB2.out⟩
        · have hF := F2.out (.inr h2)
          simp only [Prod.mk.injEq] at hF
          obtain ⟨rfl, rfl⟩ := hF
          have g1 : ((acc.length : Int) != (N : Int)) = true := by simp; omega
          clear F2 F3 F4 E2 h1 h2
          go_wp2_with fail
          refine E1.out.mono ?_
          rintro e w1 ⟨rfl, q, rfl⟩
          go_wp2_with fail
          go_ret2
          exact ⟨_, rfl, World.ownsRow_nil _ _ _ _, HK.out.drewN q, HBr.out.drewN q⟩
end Go.Proofs.YtmgjgkdbagbleaaGreatDoor.One
namespace Go.Proofs.YtmgjgkdbagbleaaGreatDoor.One
open Go.RowKit Go.Proofs.YtmgjgkdbagbleaaGreatDoor.Mem Go.Proofs.YtmgjgkdbagbleaaGreatDoor.Own Go.Proofs.YtmgjgkdbagbleaaGreatDoor.Canon Go.Proofs.YtmgjgkdbagbleaaGreatDoor.NumPut Go.Proofs.YtmgjgkdbagbleaaGreatDoor.Nums Go.Proofs.YtmgjgkdbagbleaaGreatDoor.Opts
open Go.Proofs.YtmgjgkdbagbleaaGreatDoor.Recs Go.Proofs.YtmgjgkdbagbleaaGreatDoor.Block
open Go.Proofs.YtmgjgkdbagbleaaGreatDoor.Crc (TabAt)
def UnPost (bs : List Nat) (w : World) (e : Ending) (w' : World) : Prop :=
  ∃ v, e = .returned (.tuple #[(unO bs).val, v, .int .i64 (unN bs : Nat), .int .i64 (unE bs)]) ∧ w'.ownsRow w.heap.size 77 4 v (unL bs).length (recL (unL bs)) ∧ Below w.heap.size w w'
theorem intV_le (m : Nat) {bs : List Nat} (h8 : ∀ x ∈ bs, x ≤ 255) (a : Nat) (e : Int) : intV m bs a e ≤ m := by
  unfold intV
  split
  · omega
  · exact (limP_spec m (bs.drop a) (fun x hx => h8 x (List.mem_of_mem_drop hx))).1
theorem un_cases (bs : List Nat) :
    (wholeE bs ≠ 0 → unO bs = opt0 ∧ unL bs = [] ∧ unN bs = 0 ∧ unE bs = wholeE bs) ∧
    (wholeE bs = 0 → headE (wholeO bs) ≠ 0 → unO bs = opt0 ∧ unL bs = [] ∧ unN bs = 0 ∧ unE bs = headE (wholeO bs)) ∧
    (wholeE bs = 0 → headE (wholeO bs) = 0 → (unR bs).2 ≠ 0 → unO bs = opt0 ∧ unL bs = [] ∧ unN bs = 0 ∧ unE bs = (unR bs).2) ∧
    (wholeE bs = 0 → headE (wholeO bs) = 0 → (unR bs).2 = 0 → unO bs = hO (wholeO bs) ∧ unL bs = (unR bs).1 ∧ unN bs = hM (wholeO bs) ∧ unE bs = 0) := by
  have hz : unE bs ≠ 0 → unO bs = opt0 ∧ unL bs = [] ∧ unN bs = 0 := fun h => ⟨if_neg h, if_neg h, if_neg h⟩
  refine ⟨fun h => ?_, fun h h2 => ?_, fun h h2 h3 => ?_, fun h h2 h3 => ?_⟩
  · have e : unE bs = wholeE bs := if_pos h
    have := hz (by rw [e]; exact h)
    exact ⟨this.1, this.2.1, this.2.2, e⟩
  · have e : unE bs = headE (wholeO bs) := by unfold unE; rw [if_neg (by simpa using h), if_pos h2]
    have := hz (by rw [e]; exact h2)
    exact ⟨this.1, this.2.1, this.2.2, e⟩
  · have e : unE bs = (unR bs).2 := by unfold unE; rw [if_neg (by simpa using h), if_neg (by simpa using h2)]
    have := hz (by rw [e]; exact h3)
    exact ⟨this.1, this.2.1, this.2.2, e⟩
  · have e : unE bs = 0 := by unfold unE; rw [if_neg (by simpa using h), if_neg (by simpa using h2), h3]
    exact ⟨if_pos e, if_pos e, if_pos e, e⟩
theorem whole_small {bs : List Nat} (h8 : ∀ x ∈ bs, x ≤ 255) : (wholeO bs).length ≤ bs.length ∧ ∀ x ∈ wholeO bs, x ≤ 255 := by
  unfold wholeO Crc.cutO
  split
  · split
    · exact ⟨by rw [List.length_drop, List.length_take]; omega, fun x hx => h8 x (List.mem_of_mem_take (List.mem_of_mem_drop hx))⟩
    · simp
  · simp
set_option maxHeartbeats 2000000 in
set_option maxRecDepth 100000 in
theorem un_any (w : World) (A : Option Addr) (n c : Nat) (bs : List Nat) (hn : bs.length = n) (hle : n ≤ 100000) (hcap : n ≤ c) (h8 : ∀ x ∈ bs, x ≤ 255) (ht : TabAt w) (ha : Row w w.heap.size A n 1 (numF .u8 bs)) :
    Calls Tryz.prog 19 #[.slice A n c] w (UnPost bs w) := by
  have D1 := Lib.hid (fun wx (hx : Below w.heap.size w wx) => whole_any wx A n c bs hn hle hcap h8 (ht.step hx) ((ha.below hx).mono hx.size))
  have HT := Lib.hid ht
  obtain ⟨f1, f2, f3, f4⟩ := un_cases bs
  have F1 := Lib.hid f1
  have F2 := Lib.hid f2
  have F3 := Lib.hid f3
  have F4 := Lib.hid f4
  clear f1 f2 f3 f4
  obtain ⟨hx1, hx2⟩ := whole_small h8
  have hxl : (wholeO bs).length ≤ 100000 := by omega
  unfold WholePost at D1
  unfold UnPost
  have eR : unR bs = logR (wholeO bs) (hN (wholeO bs)) (hM (wholeO bs)) (hA5 (wholeO bs)) := rfl
  rw [eR] at F3 F4
  clear eR
  generalize unO bs = oo at *
  generalize unL bs = ol at *
  generalize unN bs = on at *
  generalize unE bs = oe at *
  generalize wholeE bs = e0 at *
  generalize wholeO bs = x at *
  have HX8 := Lib.hid hx2
  have HXL := Lib.hid hxl
  clear hn hle hcap h8 ht ha hx1 hx2 hxl
  go_enter Tryz.func19, Tryz.ntmps19
  go_wp2_with fail
  have hbr : Blk (w.alloc (.cells #[.int .i64 0, .bool false, .int .i64 0, .int .i64 0, .int .i64 0, .int .i64 0] 25)) w.heap.size 25 #[.int .i64 0, .bool false, .int .i64 0, .int .i64 0, .int .i64 0, .int .i64 0] := Blk.made _ _ _
  have hb1 : Below w.heap.size w (w.alloc (.cells #[.int .i64 0, .bool false, .int .i64 0, .int .i64 0, .int .i64 0, .int .i64 0] 25)) := bel_alloc0 (Below.refl _ _)
  generalize w.alloc (.cells #[.int .i64 0, .bool false, .int .i64 0, .int .i64 0, .int .i64 0, .int .i64 0] 25) = w1 at *
  refine (D1.out _ hb1).mono ?_
  rintro e w2 ⟨B, d, rfl, hH, hb2⟩
  have BLX : Hid (Below w.heap.size w w2) := bel_step0 hb2 hb1
  have BRX := Lib.hid (hbr.step hb2)
  clear D1 hbr hb1
  by_cases h0 : e0 = 0
  · subst h0
    have F2 := Lib.hid (F2.out rfl)
    have F3 := Lib.hid (F3.out rfl)
    have F4 := Lib.hid (F4.out rfl)
    have E2 := Lib.hid (new_any w2 B x.length d x rfl HXL.out hH.none hH.row)
    have HH := Lib.hid hH
    clear F1 hb2 hH
    go_wp2_with fail
    refine E2.out.mono ?_
    rintro e w3 ⟨g, C, cc, rfl, hc3, hb3⟩
    have HC3 := Lib.hid hc3
    have HB3 := Lib.hid hb3
    have z3 := hb3.size
    have hg3 := hc3.lo
    have hgl := hc3.blk.lt
    clear hc3 hb3 E2
    go_wp2_with fail
    have hr4 : Blk (w3.alloc (.cells #[.pointer (some ⟨g, 0, none⟩), .slice B x.length d, .int .i64 0, .bool false, .int .i64 0, .int .i64 0, .int .i64 0, .int .i64 0, .int .i64 0, .int .i64 0] 95)) w3.heap.size 95 #[.pointer (some ⟨g, 0, none⟩), .slice B x.length d, .int .i64 0, .bool false, .int .i64 0, .int .i64 0, .int .i64 0, .int .i64 0, .int .i64 0, .int .i64 0] := Blk.made _ _ _
    have hb4 : Below w2.heap.size w2 (w3.alloc (.cells #[.pointer (some ⟨g, 0, none⟩), .slice B x.length d, .int .i64 0, .bool false, .int .i64 0, .int .i64 0, .int .i64 0, .int .i64 0, .int .i64 0, .int .i64 0] 95)) := bel_alloc z3 HB3.out
    have hc4 : Cur (w3.alloc (.cells #[.pointer (some ⟨g, 0, none⟩), .slice B x.length d, .int .i64 0, .bool false, .int .i64 0, .int .i64 0, .int .i64 0, .int .i64 0, .int .i64 0, .int .i64 0] 95)) g w2.heap.size x C cc 0 0 := HC3.out.step (bel_alloc0 (Below.refl _ _))
    have z4 : (w3.alloc (.cells #[.pointer (some ⟨g, 0, none⟩), .slice B x.length d, .int .i64 0, .bool false, .int .i64 0, .int .i64 0, .int .i64 0, .int .i64 0, .int .i64 0, .int .i64 0] 95)).heap.size = w3.heap.size + 1 := by simp
    generalize (w3.alloc (.cells #[.pointer (some ⟨g, 0, none⟩), .slice B x.length d, .int .i64 0, .bool false, .int .i64 0, .int .i64 0, .int .i64 0, .int .i64 0, .int .i64 0, .int .i64 0] 95)) = w4 at *
    have z4' : w3.heap.size < w4.heap.size := by omega
    have zb := BLX.out.size
    have zb2 := BRX.out.lt
    have E4 := Lib.hid (head_any w4 w3.heap.size g w2.heap.size x C cc (.slice B x.length d) HXL.out HX8.out hc4 hr4)
    have HB4 := Lib.hid hb4
    clear z4 hr4 hc4 hb4 HC3 HB3
    refine E4.out.mono ?_
    rintro e w5 ⟨rfl, hc5, hr5, hk5⟩
    have HC5 := Lib.hid hc5
    have HR5 := Lib.hid hr5
    have HK5 := Lib.hid hk5
    have zk5 := hk5.size
    have BRX5 : Hid (Blk w5 w.heap.size 25 #[.int .i64 0, .bool false, .int .i64 0, .int .i64 0, .int .i64 0, .int .i64 0]) := (hk5.block _ ⟨by omega, by omega, by omega⟩).trans (BRX.out.step HB4.out)
    have BLX5 : Hid (Below w.heap.size w w5) := (BLX.out.trans (HB4.out.mono BLX.out.size)).trans (hk5.below (fun k hk => ⟨by omega, by omega, by omega⟩))
    clear hc5 hr5 hk5 E4 BRX
    by_cases h1 : headE x = 0
    · have F3 := Lib.hid (F3.out (by trivial) h1)
      have F4 := Lib.hid (F4.out (by trivial) h1)
      have hE5z : hE5 x = 0 := by
        refine Decidable.byContradiction fun hn => ?_
        unfold headE at h1
        rw [if_pos hn] at h1
        exact hn h1
      have hc5 := HC5.out
      rw [hE5z] at hc5
      have hmn : hM x ≤ 20000 := Nat.le_trans (intV_le _ HX8.out _ _) (intV_le _ HX8.out _ _)
      have hto : TabAt w2 := HT.out.step BLX.out
      have hrow : Row w5 w2.heap.size B x.length 1 (numF .u8 x) := row_apart (HH.out.row.below HB4.out) HK5.out HB4.out.size hg3 z3
      have E6 := Lib.hid (log_any w5 w3.heap.size g w2.heap.size x C cc (hA5 x) B d (hN x) (hM x) _ _ _ _ _ _ HXL.out hmn HX8.out (tab_apart (hto.step HB4.out) HK5.out hto.lt hg3 z3) HH.out.cap (fun e => ⟨(HH.out.none e).1, (HH.out.none e).2⟩) hrow z3 hto.lt (Nat.le_trans HB4.out.size HK5.out.size) hc5 HR5.out)
      unfold LogPost at E6
      rw [h1]
      clear F2 hE5z hc5 hmn hto hrow HH HC5 HR5 HK5 h1
      have HOV : Hid ((hO x).val = .agg #[.int .i64 (hO x).block, .bool (hO x).plain, .int .i64 0, .int .i64 0, .int .i64 0, .int .i64 0]) := rfl
      generalize logR x (hN x) (hM x) (hA5 x) = LR at *
      generalize hO x = ho at *
      generalize hM x = hm at *
      generalize hN x = hn at *
      obtain ⟨ll, le⟩ := LR
      simp only at E6 F3 F4
      go_wp2_with fail
      refine E6.out.mono ?_
      rintro e w6 ⟨v, rfl, ho6, hk6, hr6⟩
      obtain ⟨A6, c6, rfl⟩ := own_shape ho6
      have HO6 := Lib.hid (own_mono ho6 BLX5.out.size)
      have HR6 := Lib.hid hr6
      have BRX : Hid (Blk w6 w.heap.size 25 #[.int .i64 0, .bool false, .int .i64 0, .int .i64 0, .int .i64 0, .int .i64 0]) := (hk6.block _ ⟨by omega, by omega, by omega⟩).trans BRX5.out
      have BLX : Hid (Below w.heap.size w w6) := BLX5.out.trans (hk6.below (fun k hk => ⟨by omega, by omega, by omega⟩))
      clear ho6 hr6 hk6 E6 BRX5 BLX5
      by_cases h2 : le = 0
      · obtain ⟨rfl, rfl, rfl, rfl⟩ := F4.out h2
        subst h2
        have j0 := BRX.out.cell 0
        have j1 := BRX.out.cell 1
        have j2 := BRX.out.cell 2
        have j3 := BRX.out.cell 3
        have j4 := BRX.out.cell 4
        have j5 := BRX.out.cell 5
        have k0 := BRX.out.frozen 0
        have k1 := BRX.out.frozen 1
        have k2 := BRX.out.frozen 2
        have k3 := BRX.out.frozen 3
        have k4 := BRX.out.frozen 4
        have k5 := BRX.out.frozen 5
        have m2 := HR6.out.cell 2
        have m3 := HR6.out.cell 3
        have m4 := HR6.out.cell 4
        have m5 := HR6.out.cell 5
        have m6 := HR6.out.cell 6
        have m7 := HR6.out.cell 7
        have m9 := HR6.out.cell 9
        simp only [List.getElem?_toArray, List.getElem?_cons_zero, List.getElem?_cons_succ] at j0 j1 j2 j3 j4 j5 m2 m3 m4 m5 m6 m7 m9
        clear F3 F4
        go_wp2_with fail
        go_region
        have B6 := ((((((BRX.out.set 0 (.int .i64 oo.block)).set 1 (.bool oo.plain)).set 2 (.int .i64 0)).set 3 (.int .i64 0)).set 4 (.int .i64 0)).set 5 (.int .i64 0))
        have L6 := bel_set (p := ⟨w.heap.size, 5, none⟩) (u := .int .i64 0) (Nat.le_refl _) (bel_set (p := ⟨w.heap.size, 4, none⟩) (u := .int .i64 0) (Nat.le_refl _) (bel_set (p := ⟨w.heap.size, 3, none⟩) (u := .int .i64 0) (Nat.le_refl _) (bel_set (p := ⟨w.heap.size, 2, none⟩) (u := .int .i64 0) (Nat.le_refl _) (bel_set (p := ⟨w.heap.size, 1, none⟩) (u := .bool oo.plain) (Nat.le_refl _) (bel_set (p := ⟨w.heap.size, 0, none⟩) (u := .int .i64 oo.block) (Nat.le_refl _) BLX.out)))))
        have hnb : (Value.slice A6 ol.length c6).ownBlock ≠ some w.heap.size := own_blk HO6.out BRX.out (by decide)
        have O6 := set_own (p := ⟨w.heap.size, 5, none⟩) (set_own (p := ⟨w.heap.size, 4, none⟩) (set_own (p := ⟨w.heap.size, 3, none⟩) (set_own (p := ⟨w.heap.size, 2, none⟩) (set_own (p := ⟨w.heap.size, 1, none⟩) (set_own (p := ⟨w.heap.size, 0, none⟩) HO6.out hnb (.int .i64 oo.block)) hnb (.bool oo.plain)) hnb (.int .i64 0)) hnb (.int .i64 0)) hnb (.int .i64 0)) hnb (.int .i64 0)
        generalize ((((((w6.setCell ⟨w.heap.size, 0, none⟩ (.int .i64 oo.block)).setCell ⟨w.heap.size, 1, none⟩ (.bool oo.plain)).setCell ⟨w.heap.size, 2, none⟩ (.int .i64 0)).setCell ⟨w.heap.size, 3, none⟩ (.int .i64 0)).setCell ⟨w.heap.size, 4, none⟩ (.int .i64 0)).setCell ⟨w.heap.size, 5, none⟩ (.int .i64 0)) = wf at *
        go_wp2_with fail
        have B7 := B6.drew
        have z0 := B7.cell 0
        have z1 := B7.cell 1
        have z2 := B7.cell 2
        have z3 := B7.cell 3
        have z4 := B7.cell 4
        have z5 := B7.cell 5
        simp only [List.setIfInBounds_toArray, List.set_cons_zero, List.set_cons_succ, List.getElem?_toArray, List.getElem?_cons_zero, List.getElem?_cons_succ] at z0 z1 z2 z3 z4 z5
        refine bodyPost_ret (v := .tuple #[oo.val, .slice A6 ol.length c6, .int .i64 on, .int .i64 0]) ?_ rfl ⟨_, rfl, own_kept O6 (fun x hx => rfl), L6.drew⟩
        rw [HOV.out]
        simp [results, Tryz.results19, go_sem, z0, z1, z2, z3, z4, z5]
      · obtain ⟨rfl, rfl, rfl, rfl⟩ := F3.out h2
        have g1 : (oe != 0) = true := by simpa using h2
        clear F3 F4 h2
        obtain ⟨wX, rfl⟩ : ∃ wX : World, wX = w6 := ⟨_, rfl⟩
        have B6 := ((((((BRX.out.set 0 (.int .i64 0)).set 1 (.bool false)).set 2 (.int .i64 0)).set 3 (.int .i64 0)).set 4 (.int .i64 0)).set 5 (.int .i64 0))
        have L6 := bel_set (p := ⟨w.heap.size, 5, none⟩) (u := .int .i64 0) (Nat.le_refl _) (bel_set (p := ⟨w.heap.size, 4, none⟩) (u := .int .i64 0) (Nat.le_refl _) (bel_set (p := ⟨w.heap.size, 3, none⟩) (u := .int .i64 0) (Nat.le_refl _) (bel_set (p := ⟨w.heap.size, 2, none⟩) (u := .int .i64 0) (Nat.le_refl _) (bel_set (p := ⟨w.heap.size, 1, none⟩) (u := .bool false) (Nat.le_refl _) (bel_set (p := ⟨w.heap.size, 0, none⟩) (u := .int .i64 0) (Nat.le_refl _) BLX.out)))))
        have j0 := BRX.out.cell 0
        have j1 := BRX.out.cell 1
        have j2 := BRX.out.cell 2
        have j3 := BRX.out.cell 3
        have j4 := BRX.out.cell 4
        have j5 := BRX.out.cell 5
        have k0 := BRX.out.frozen 0
        have k1 := BRX.out.frozen 1
        have k2 := BRX.out.frozen 2
        have k3 := BRX.out.frozen 3
        have k4 := BRX.out.frozen 4
        have k5 := BRX.out.frozen 5
        simp only [List.getElem?_toArray, List.getElem?_cons_zero, List.getElem?_cons_succ] at j0 j1 j2 j3 j4 j5
        go_wp2_with fail
        generalize ((((((wX.setCell ⟨w.heap.size, 0, none⟩ (.int .i64 0)).setCell ⟨w.heap.size, 1, none⟩ (.bool false)).setCell ⟨w.heap.size, 2, none⟩ (.int .i64 0)).setCell ⟨w.heap.size, 3, none⟩ (.int .i64 0)).setCell ⟨w.heap.size, 4, none⟩ (.int .i64 0)).setCell ⟨w.heap.size, 5, none⟩ (.int .i64 0)) = w6 at *
        have z0 := B6.cell 0
        have z1 := B6.cell 1
        have z2 := B6.cell 2
        have z3 := B6.cell 3
        have z4 := B6.cell 4
        have z5 := B6.cell 5
        simp only [List.setIfInBounds_toArray, List.set_cons_zero, List.set_cons_succ, List.getElem?_toArray, List.getElem?_cons_zero, List.getElem?_cons_succ] at z0 z1 z2 z3 z4 z5
        refine bodyPost_ret (v := .tuple #[opt0.val, .slice none 0 0, .int .i64 0, .int .i64 _]) ?_ rfl ⟨_, rfl, World.ownsRow_nil _ _ _ _, L6⟩
        simp [results, Tryz.results19, go_sem, z0, z1, z2, z3, z4, z5, Opt.val, opt0]
    · obtain ⟨rfl, rfl, rfl, rfl⟩ := F2.out (by trivial) h1
      have g1 : (headE x != 0) = true := by simpa using h1
      have BRX := Lib.hid BRX5.out
      have BLX := Lib.hid BLX5.out
      clear F2 F3 F4 BRX5 BLX5
      obtain ⟨wX, rfl⟩ : ∃ wX : World, wX = w5 := ⟨_, rfl⟩
      have B6 := ((((((BRX.out.set 0 (.int .i64 0)).set 1 (.bool false)).set 2 (.int .i64 0)).set 3 (.int .i64 0)).set 4 (.int .i64 0)).set 5 (.int .i64 0))
      have L6 := bel_set (p := ⟨w.heap.size, 5, none⟩) (u := .int .i64 0) (Nat.le_refl _) (bel_set (p := ⟨w.heap.size, 4, none⟩) (u := .int .i64 0) (Nat.le_refl _) (bel_set (p := ⟨w.heap.size, 3, none⟩) (u := .int .i64 0) (Nat.le_refl _) (bel_set (p := ⟨w.heap.size, 2, none⟩) (u := .int .i64 0) (Nat.le_refl _) (bel_set (p := ⟨w.heap.size, 1, none⟩) (u := .bool false) (Nat.le_refl _) (bel_set (p := ⟨w.heap.size, 0, none⟩) (u := .int .i64 0) (Nat.le_refl _) BLX.out)))))
      have j0 := BRX.out.cell 0
      have j1 := BRX.out.cell 1
      have j2 := BRX.out.cell 2
      have j3 := BRX.out.cell 3
      have j4 := BRX.out.cell 4
      have j5 := BRX.out.cell 5
      have k0 := BRX.out.frozen 0
      have k1 := BRX.out.frozen 1
      have k2 := BRX.out.frozen 2
      have k3 := BRX.out.frozen 3
      have k4 := BRX.out.frozen 4
      have k5 := BRX.out.frozen 5
      simp only [List.getElem?_toArray, List.getElem?_cons_zero, List.getElem?_cons_succ] at j0 j1 j2 j3 j4 j5
      go_wp2_with fail
      generalize ((((((wX.setCell ⟨w.heap.size, 0, none⟩ (.int .i64 0)).setCell ⟨w.heap.size, 1, none⟩ (.bool false)).setCell ⟨w.heap.size, 2, none⟩ (.int .i64 0)).setCell ⟨w.heap.size, 3, none⟩ (.int .i64 0)).setCell ⟨w.heap.size, 4, none⟩ (.int .i64 0)).setCell ⟨w.heap.size, 5, none⟩ (.int .i64 0)) = w6 at *
      have z0 := B6.cell 0
      have z1 := B6.cell 1
      have z2 := B6.cell 2
      have z3 := B6.cell 3
      have z4 := B6.cell 4
      have z5 := B6.cell 5
      simp only [List.setIfInBounds_toArray, List.set_cons_zero, List.set_cons_succ, List.getElem?_toArray, List.getElem?_cons_zero, List.getElem?_cons_succ] at z0 z1 z2 z3 z4 z5
      refine bodyPost_ret (v := .tuple #[opt0.val, .slice none 0 0, .int .i64 0, .int .i64 _]) ?_ rfl ⟨_, rfl, World.ownsRow_nil _ _ _ _, L6⟩
      simp [results, Tryz.results19, go_sem, z0, z1, z2, z3, z4, z5, Opt.val, opt0]
  · obtain ⟨rfl, rfl, rfl, rfl⟩ := F1.out h0
    have g1 : (oe != 0) = true := by simpa using h0
    clear F1 F2 F3 F4 h0 hb2
    obtain ⟨wX, rfl⟩ : ∃ wX : World, wX = w2 := ⟨_, rfl⟩
    have B6 := ((((((BRX.out.set 0 (.int .i64 0)).set 1 (.bool false)).set 2 (.int .i64 0)).set 3 (.int .i64 0)).set 4 (.int .i64 0)).set 5 (.int .i64 0))
    have L6 := bel_set (p := ⟨w.heap.size, 5, none⟩) (u := .int .i64 0) (Nat.le_refl _) (bel_set (p := ⟨w.heap.size, 4, none⟩) (u := .int .i64 0) (Nat.le_refl _) (bel_set (p := ⟨w.heap.size, 3, none⟩) (u := .int .i64 0) (Nat.le_refl _) (bel_set (p := ⟨w.heap.size, 2, none⟩) (u := .int .i64 0) (Nat.le_refl _) (bel_set (p := ⟨w.heap.size, 1, none⟩) (u := .bool false) (Nat.le_refl _) (bel_set (p := ⟨w.heap.size, 0, none⟩) (u := .int .i64 0) (Nat.le_refl _) BLX.out)))))
    have j0 := BRX.out.cell 0
    have j1 := BRX.out.cell 1
    have j2 := BRX.out.cell 2
    have j3 := BRX.out.cell 3
    have j4 := BRX.out.cell 4
    have j5 := BRX.out.cell 5
    have k0 := BRX.out.frozen 0
    have k1 := BRX.out.frozen 1
    have k2 := BRX.out.frozen 2
    have k3 := BRX.out.frozen 3
    have k4 := BRX.out.frozen 4
    have k5 := BRX.out.frozen 5
    simp only [List.getElem?_toArray, List.getElem?_cons_zero, List.getElem?_cons_succ] at j0 j1 j2 j3 j4 j5
    go_wp2_with fail
    generalize ((((((wX.setCell ⟨w.heap.size, 0, none⟩ (.int .i64 0)).setCell ⟨w.heap.size, 1, none⟩ (.bool false)).setCell ⟨w.heap.size, 2, none⟩ (.int .i64 0)).setCell ⟨w.heap.size, 3, none⟩ (.int .i64 0)).setCell ⟨w.heap.size, 4, none⟩ (.int .i64 0)).setCell ⟨w.heap.size, 5, none⟩ (.int .i64 0)) = w6 at *
    have z0 := B6.cell 0
    have z1 := B6.cell 1
    have z2 := B6.cell 2
    have z3 := B6.cell 3
    have z4 := B6.cell 4
    have z5 := B6.cell 5
    simp only [List.setIfInBounds_toArray, List.set_cons_zero, List.set_cons_succ, List.getElem?_toArray, List.getElem?_cons_zero, List.getElem?_cons_succ] at z0 z1 z2 z3 z4 z5
    refine bodyPost_ret (v := .tuple #[opt0.val, .slice none 0 0, .int .i64 0, .int .i64 _]) ?_ rfl ⟨_, rfl, World.ownsRow_nil _ _ _ _, L6⟩
    simp [results, Tryz.results19, go_sem, z0, z1, z2, z3, z4, z5, Opt.val, opt0]
end Go.Proofs.YtmgjgkdbagbleaaGreatDoor.One
namespace Go.Proofs.YtmgjgkdbagbleaaGreatDoor.One
open Go.RowKit Go.Proofs.YtmgjgkdbagbleaaGreatDoor.Mem Go.Proofs.YtmgjgkdbagbleaaGreatDoor.Own Go.Proofs.YtmgjgkdbagbleaaGreatDoor.Canon Go.Proofs.YtmgjgkdbagbleaaGreatDoor.NumPut Go.Proofs.YtmgjgkdbagbleaaGreatDoor.Nums Go.Proofs.YtmgjgkdbagbleaaGreatDoor.Opts
open Go.Proofs.YtmgjgkdbagbleaaGreatDoor.Recs Go.Proofs.YtmgjgkdbagbleaaGreatDoor.Block
open Go.Proofs.YtmgjgkdbagbleaaGreatDoor.Crc (TabAt tailN sumN)
theorem frames_flat (pl : Bool) : ∀ (cs : List Nat) (l : List Rec), (∀ r ∈ l, RecOk r) → (bytesB true l).length ≤ 32768 → ((framesP pl cs l).flatten).length ≤ (bytesB true l).length + 11 * cs.length
  | [], l, _, _ => by simp [framesP]
  | c :: t, l, h, hb => by
    have hs := bytesB_split true l c
    have h1 := (frame_size pl (bytesB_u8 true (l := l.take c) (fun r hr => h r (List.mem_of_mem_take hr))) (by omega)).2
    have h2 := frames_flat pl t (l.drop c) (fun r hr => h r (List.mem_of_mem_drop hr)) (by omega)
    rw [framesP, List.flatten_cons, List.length_append, List.length_cons]
    omega
theorem packB_len {o : Opt} {l : List Rec} (ho : optE o = 0) (hn : l.length ≤ 1000) (hok : ∀ r ∈ l, RecOk r) (hb : (bytesB true l).length ≤ 16000) : (packB o l).length ≤ 60000 ∧ 9 ≤ (packB o l).length := by
  obtain ⟨b1, b2⟩ := optE_ok ho
  have hg := counts_len o l
  have hf := frames_flat o.plain (countsO o l) l hok (by omega)
  have n1 := numB_len64 (x := o.block.toNat) (by omega)
  have n2 := numB_len64 (x := l.length) (by omega)
  have n3 := numB_len64 (x := (countsO o l).length) (by omega)
  have ht : (tailN (sumN (bodyO o l))).length = 4 := rfl
  unfold packB
  rw [List.length_append, ht]
  unfold bodyO headO markB
  simp only [List.length_append, List.length_cons, List.length_nil]
  omega
theorem foldl_pos : ∀ (l : List Int) (a : Int), (∀ x ∈ l, 0 ≤ x) → a ≤ l.foldl (· + ·) a
  | [], a, _ => by simp
  | x :: l, a, h => by
    have := foldl_pos l (a + x) (fun y hy => h y (by simp [hy]))
    have := h x (by simp)
    rw [List.foldl_cons]
    omega
theorem weigh_le_weight {l : List Rec} {r : Rec} (hr : r ∈ l) : weigh r ≤ weight l := by
  obtain ⟨a, b, rfl⟩ := List.append_of_mem hr
  have hp : ∀ x ∈ (List.map weigh b), 0 ≤ x := fun x hx => by
    obtain ⟨y, _, rfl⟩ := List.mem_map.1 hx
    unfold weigh
    omega
  have hq : ∀ x ∈ (List.map weigh a), 0 ≤ x := fun x hx => by
    obtain ⟨y, _, rfl⟩ := List.mem_map.1 hx
    unfold weigh
    omega
  have h1 := foldl_pos _ 0 hq
  have h2 := foldl_pos _ ((List.map weigh a).foldl (· + ·) 0 + weigh r) hp
  unfold weight
  rw [List.map_append, List.map_cons, List.foldl_append, List.foldl_cons]
  omega
theorem small_chk {l : List Rec} (hn : (l.length : Int) ≤ 60) (hw : weight l ≤ 4000) : chkE l = 0 := by
  have hany : ¬ l.any longB = true := by
    intro h
    obtain ⟨r, hr, hl⟩ := List.any_eq_true.1 h
    have := weigh_le_weight hr
    unfold weigh at this
    unfold longB at hl
    simp at hl
    omega
  unfold chkE
  rw [if_neg (by omega), if_neg hany, if_neg (by omega)]
set_option maxHeartbeats 4000000 in
set_option maxRecDepth 100000 in
theorem law_oback (w : World) (o : Opt) (A : Option Addr) (n c : Nat) (l : List Rec) (hn : l.length = n) (hN : n ≤ 9223372036854775807) (hc : n ≤ c) (hok : ∀ r ∈ l, RecOk r) (ht : TabAt w) (ha : Row w w.heap.size A n 4 (recF l)) :
    Calls Tryz.prog 4 #[o.val, .slice A n c] w fun e w' => e = .returned (.bool true) ∧ Below w.heap.size w w' := by
  have D0 := Lib.hid (fun wx (hx : Below w.heap.size w wx) => alive21 wx (ht.step hx))
  have D2 := Lib.hid (fun wx (hx : Below w.heap.size w wx) => ref_great wx A n c l 60 4000 (by omega) hn hN ((ha.below hx).mono hx.size))
  have D3 := Lib.hid (fun wx (hx : Below w.heap.size w wx) (hcd : chkE l = 0 → n ≤ 1000 ∧ (bytesB true l).length ≤ 16000) => packs_any wx o A n c l hn hN hc hok hcd (ht.step hx) ((ha.below hx).mono hx.size))
  have HSM : Hid ((n : Int) ≤ 60 ∧ weight l ≤ 4000 → (chkE l = 0 → n ≤ 1000 ∧ (bytesB true l).length ≤ 16000) ∧ (optE o ≠ 0 → packE o l = 9 ∧ packR o l = []) ∧ (optE o = 0 → packE o l = 0 ∧ packR o l = packB o l ∧ (packB o l).length ≤ 60000 ∧ unE (packB o l) = 0 ∧ unO (packB o l) = o ∧ unL (packB o l) = l)) := fun h => by
    have hk : chkE l = 0 := small_chk (by omega) (by omega)
    have hb : (bytesB true l).length ≤ 16000 := bytes_great hn hok hk (by omega) (by omega)
    refine ⟨fun _ => ⟨by omega, hb⟩, fun ho => ?_, fun ho => ?_⟩
    · have e : packE o l = 9 := by unfold packE; rw [if_pos ho, optE_nine ho]
      exact ⟨e, by unfold packR; rw [if_neg (by rw [e]; decide)]⟩
    · have e : packE o l = 0 := by unfold packE; rw [if_neg (by simpa using ho), if_neg (by simpa using hk)]
      obtain ⟨u1, u2, u3⟩ := un_back ho hk hok (by omega)
      exact ⟨e, by unfold packR; rw [if_pos e], (packB_len ho (by omega) hok hb).1, u1, u2, u3⟩
  have H9 : Hid (optE o ≠ 0 → optE o = 9) := fun h => optE_nine h
  have HF8 := Lib.hid (packB_u8 (o := o) hok)
  have D4 : Hid (∀ wx A2 c2 L, L = (packB o l).length → L ≤ 100000 → Below w.heap.size w wx → wx.ownsRow w.heap.size 5 1 (.slice A2 L c2) L (numL .u8 (packB o l)) → Calls Tryz.prog 19 #[.slice A2 L c2] wx (UnPost (packB o l) wx)) := fun wx A2 c2 L hl hL hb ho => by
    subst hl
    have hr := Part.Ok.row (part_own (ls := packB o l) ho rfl)
    exact un_any wx A2 _ c2 _ rfl hL (own_wf ho).2 HF8.out (ht.step hb) hr
  have D5 := Lib.hid (fun wx => rocheck_any wx o)
  have DS : Hid (∀ (wx : World) Ay cy m, l.length = m → Below w.heap.size w wx → Row wx wx.heap.size Ay m 4 (recF l) → Calls Tryz.prog 21 #[.slice A n c, .slice Ay m cy] wx fun e w' => e = .returned (.bool true) ∧ Below wx.heap.size wx w') := fun wx Ay cy m hm hx hy => by
    have := ref_same wx A Ay n m c cy l l hn hm hN (by omega) ((ha.below hx).mono hx.size) hy
    rwa [show recsEq l l = true by simp [recsEq]] at this
  unfold PacksPost at D3
  unfold GreatPost at D2
  unfold UnPost at D4
  generalize packE o l = E at *
  generalize packR o l = R at *
  generalize hF : packB o l = F at *
  generalize optE o = oE at *
  generalize chkE l = ck at *
  generalize bytesB true l = B at *
  generalize unE F = ue at *
  generalize unO F = uo at *
  generalize unL F = ul at *
  generalize unN F = un at *
  obtain ⟨S, pl, bu, da, pa, ch⟩ := o
  unfold Opt.val at D3 D4 D5 ⊢
  simp only at D3 D4 D5 ⊢
  have HE := opt_eql pl pl S S bu bu da da pa pa ch ch
  have hd : decide (S = S ∧ pl = pl ∧ bu = bu ∧ da = da ∧ pa = pa ∧ ch = ch) = true := decide_eq_true ⟨rfl, rfl, rfl, rfl, rfl, rfl⟩
  rw [hd] at HE
  have HN := Lib.hid hn
  clear hn hok ht ha hd hF
  go_enter Tryz.func4, Tryz.ntmps4
  go_wp2_with fail
  have hba : Blk (w.alloc (.cells #[.int .i64 S, .bool pl, .int .i64 bu, .int .i64 da, .int .i64 pa, .int .i64 ch] 25)) w.heap.size 25 #[.int .i64 S, .bool pl, .int .i64 bu, .int .i64 da, .int .i64 pa, .int .i64 ch] := Blk.made _ _ _
  have hbw : Below w.heap.size w (w.alloc (.cells #[.int .i64 S, .bool pl, .int .i64 bu, .int .i64 da, .int .i64 pa, .int .i64 ch] 25)) := bel_alloc0 (Below.refl _ _)
  generalize w.alloc (.cells #[.int .i64 S, .bool pl, .int .i64 bu, .int .i64 da, .int .i64 pa, .int .i64 ch] 25) = wa at *
  have HWA : Hid (∀ wx, Below wa.heap.size wa wx → Below w.heap.size w wx) := fun wx h => hbw.trans (h.mono hbw.size)
  have HBA := Lib.hid hba
  have HBW := Lib.hid hbw
  clear hba hbw
  refine (D0.out wa HBW.out).mono ?_
  rintro e w1 ⟨rfl, hb1⟩
  have B1 : Hid (Below wa.heap.size wa w1) := hb1
  have E2 := Lib.hid (D2.out w1 (HWA.out _ B1.out))
  clear hb1 D0 D2
  go_wp2_with fail
  refine E2.out.mono ?_
  rintro e w5 ⟨gr, rfl, hgr, hb5⟩
  have B5 : Hid (Below wa.heap.size wa w5) := bel_step0 hb5 B1.out
  clear hb5 E2 B1
  cases gr with
  | true =>
    clear hgr
    go_wp2_with fail
    go_ret
    exact ⟨rfl, HWA.out _ B5.out⟩
  | false =>
    obtain ⟨s1, s2, s3⟩ := HSM.out (hgr rfl)
    have E5 := Lib.hid (D3.out w5 (HWA.out _ B5.out) s1)
    have q5 := HBA.out.step B5.out
    have k0 := q5.cell 0; have k1 := q5.cell 1; have k2 := q5.cell 2; have k3 := q5.cell 3; have k4 := q5.cell 4; have k5 := q5.cell 5; simp only [List.getElem?_toArray, List.getElem?_cons_zero, List.getElem?_cons_succ] at k0 k1 k2 k3 k4 k5
    have zs5 := q5.lt
    clear hgr D3 HSM s1 q5
    by_cases ho : oE = 0
    · obtain ⟨rfl, rfl, hFl, rfl, rfl, rfl⟩ := s3 ho
      have HFL := Lib.hid hFl
      have ge : ((0 : Int) == 0) = true := rfl
      clear s2 s3 D5 ho hFl
      obtain ⟨L, hL⟩ : ∃ L, L = R.length := ⟨_, rfl⟩
      have HL := Lib.hid hL
      rw [← hL] at E5
      clear hL
      go_wp2_with fail
      refine E5.out.mono ?_
      rintro e w6 ⟨v6, rfl, ho6, hb6⟩
      obtain ⟨A6, c6, rfl⟩ := own_shape ho6
      have B6 : Hid (Below wa.heap.size wa w6) := bel_step0 hb6 B5.out
      have BW6 : Hid (Below w.heap.size w w6) := HWA.out _ B6.out
      have E6 := Lib.hid (D4.out w6 A6 c6 L HL.out (by have := HL.out; have := HFL.out; omega) BW6.out (own_mono ho6 (HWA.out _ B5.out).size))
      clear ho6 hb6 E5 B5 D4 k0 k1 k2 k3 k4 k5
      go_wp2_with fail
      refine E6.out.mono ?_
      rintro e w7 ⟨v7, rfl, ho7, hb7⟩
      obtain ⟨A7, c7, rfl⟩ := own_shape ho7
      have B7 : Hid (Below wa.heap.size wa w7) := bel_step0 hb7 B6.out
      have BW7 : Hid (Below w.heap.size w w7) := HWA.out _ B7.out
      have q7 := HBA.out.step B7.out
      have k0 := q7.cell 0; have k1 := q7.cell 1; have k2 := q7.cell 2; have k3 := q7.cell 3; have k4 := q7.cell 4; have k5 := q7.cell 5; simp only [List.getElem?_toArray, List.getElem?_cons_zero, List.getElem?_cons_succ] at k0 k1 k2 k3 k4 k5
      have zs7 := q7.lt
      have hrow7 := own_recs ho7
      have E7 : Hid (∀ wx, Below w7.heap.size w7 wx → Calls Tryz.prog 21 #[.slice A n c, .slice A7 ul.length c7] wx fun e w' => e = .returned (.bool true) ∧ Below wx.heap.size wx w') := fun wx hx =>
        DS.out wx A7 c7 ul.length rfl (bel_step0 hx BW7.out) ((hrow7.below hx).mono hx.size)
      clear ho7 hb7 E6 B6 BW6 DS hrow7 q7
      go_wp2_with fail
      refine (E7.out _ (bel_alloc0 (Below.refl _ _))).mono ?_
      rintro e w8 ⟨rfl, hb8⟩
      have B8 : Hid (Below w.heap.size w w8) := bel_step0 hb8 (bel_alloc BW7.out.size BW7.out)
      clear hb8 E7
      go_wp2_with fail
      go_ret
      exact ⟨rfl, B8.out⟩
    · obtain ⟨rfl, rfl⟩ := s2 ho
      clear s2 s3 D4 DS
      go_wp2_with fail
      refine E5.out.mono ?_
      rintro e w6 ⟨v6, rfl, ho6, hb6⟩
      obtain ⟨A6, c6, rfl⟩ := own_shape ho6
      have B6 : Hid (Below wa.heap.size wa w6) := bel_step0 hb6 B5.out
      have q6 := HBA.out.step B6.out
      have k0 := q6.cell 0; have k1 := q6.cell 1; have k2 := q6.cell 2; have k3 := q6.cell 3; have k4 := q6.cell 4; have k5 := q6.cell 5; simp only [List.getElem?_toArray, List.getElem?_cons_zero, List.getElem?_cons_succ] at k0 k1 k2 k3 k4 k5
      have h9 := H9.out ho
      rw [h9] at D5
      clear ho6 hb6 E5 B5 q6 ho h9
      go_wp2_with fail
      refine (D5.out _).mono ?_
      rintro e w8 ⟨rfl, hb8⟩
      have B8 : Hid (Below wa.heap.size wa w8) := bel_step0 hb8 B6.out
      clear hb8 D5
      go_wp2_with fail
      go_ret
      exact ⟨rfl, HWA.out _ B8.out⟩
end Go.Proofs.YtmgjgkdbagbleaaGreatDoor.One
