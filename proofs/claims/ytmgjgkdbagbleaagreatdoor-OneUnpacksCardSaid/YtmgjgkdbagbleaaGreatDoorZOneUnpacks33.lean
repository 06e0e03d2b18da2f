/-
  The reference's reader of a frame: its sum, its head.
-/
import Derived.Test.YtmgjgkdbagbleaaGreatDoorZOneUnpacks32
import Derived.Test.YtmgjgkdbagbleaaGreatDoorZOneUnpacks6
import Derived.Test.YtmgjgkdbagbleaaGreatDoorZOneUnpacks25
import Derived.Test.YtmgjgkdbagbleaaGreatDoorZOneUnpacks15
namespace Go.Proofs.YtmgjgkdbagbleaaGreatDoor.Block
open Go.RowKit Go.Proofs.YtmgjgkdbagbleaaGreatDoor.Mem Go.Proofs.YtmgjgkdbagbleaaGreatDoor.Own Go.Proofs.YtmgjgkdbagbleaaGreatDoor.Canon
open Go.Proofs.YtmgjgkdbagbleaaGreatDoor.Nums Go.Proofs.YtmgjgkdbagbleaaGreatDoor.Crc
theorem results_tmp5 {fn : Func} {t u v x y : Tmp} (h : fn.results = #[.tmp t, .tmp u, .tmp v, .tmp x, .tmp y]) (tmps : Array Value) (P : Program) (w : World) :
    (results fn tmps).run P w = .ok (.tuple #[tmps.getD t undef, tmps.getD u undef, tmps.getD v undef, tmps.getD x undef, tmps.getD y undef]) w := by
  simp [results, h]
theorem Below.drewN' {B : Nat} {a w : World} (h : Below B a w) (n : Nat) : Below B a (w.drewN n) := below_drewN h n
theorem bel_on {w w1 w2 : World} {g : Nat} (h : Below w.heap.size w w1) (hg : w.heap.size ≤ g) (k : Kept (Others g w1) w1 w2) : Below w.heap.size w w2 :=
  h.trans (k.below fun x hx => ⟨Nat.lt_of_lt_of_le hx h.size, by omega⟩)
theorem bel_ne {w w1 w2 : World} {g : Nat} (h : Below w.heap.size w w1) (hg : w.heap.size ≤ g) (k : Kept (fun x => x ≠ g) w1 w2) : Below w.heap.size w w2 :=
  h.trans (k.below fun x hx => by show x ≠ g; omega)
theorem cut_same {ls : List Nat} {m : Nat} (hn : ls.length = m + 4) : decide (ls.take m ++ tailN (sumN (ls.take m)) = ls) = decide (ls.drop m = tailN (sumN (ls.take m))) := by
  have e : ls = ls.take m ++ ls.drop m := (List.take_append_drop m ls).symm
  by_cases h : ls.drop m = tailN (sumN (ls.take m))
  · rw [decide_eq_true h]
    refine decide_eq_true ?_
    rw [← h]
    exact e.symm
  · rw [decide_eq_false h]
    refine decide_eq_false fun h2 => h ?_
    have h3 := congrArg (List.drop m) h2
    rw [List.drop_append_of_le_length (by rw [List.length_take]; omega), List.drop_of_length_le (by rw [List.length_take]; omega), List.nil_append] at h3
    exact h3.symm
set_option maxHeartbeats 1000000 in
set_option maxRecDepth 100000 in
theorem rcut_any (w : World) (A : Option Addr) (n c : Nat) (ls : List Nat) (hn : ls.length = n) (hle : n ≤ 100000) (hc : n ≤ c) (h8 : ∀ x ∈ ls, x ≤ 255) (ha : Row w w.heap.size A n 1 (numF .u8 ls)) :
    Calls Tryz.prog 65 #[.slice A n c] w (CutPost ls w) := by
  unfold CutPost
  by_cases h4 : n < 4
  · have hE : cutE ls = 1 := by unfold cutE; rw [if_pos (by omega)]
    have hO : cutO ls = [] := by unfold cutO; rw [hE]; rfl
    rw [hE, hO]
    have g1 : decide ((n : Int) < 4) = true := by simp; omega
    have g1' : decide (n < 4) = true := by simp; omega
    clear ha h8 hn hE hO
    go_enter Tryz.func65, Tryz.ntmps65
    go_wp2_with fail
    go_ret2
    exact ⟨_, rfl, World.ownsRow_nil _ _ _ _, Below.refl _ _⟩
  · obtain ⟨m, rfl⟩ : ∃ m, n = m + 4 := ⟨n - 4, by omega⟩
    obtain ⟨ab, ao, rfl, hab, hac⟩ := ha (by omega)
    obtain ⟨j0, hj0, hy0, hy1, hy2⟩ := info_parts info_u8
    have hm4 : ls.length - 4 = m := by omega
    have s1 : IntKind.i64.wrap ((((m + 4 : Nat)) : Int) - 4) = (m : Int) := by rw [IntWalk.i64_in _ (by omega)]; omega
    have g1 : decide ((((m + 4 : Nat)) : Int) < 4) = false := by simp; omega
    have g1' : decide (m + 4 < 4) = false := by simp
    have hb := row_num_take ha (show m ≤ m + 4 by omega)
    have hlb : (ls.take m).length = m := by rw [List.length_take]; omega
    have h8b : ∀ x ∈ ls.take m, x ≤ 255 := fun x hx => h8 x (List.mem_of_mem_take hx)
    have k2 := fun wx => run_cuth' (P := Tryz.prog) (t := 22) (s := 1) Tryz.underlying22 (fun _ => by kernel_rfl) (some ⟨ab, ao, none⟩) (m + 4) c .i64 (m : Int) m rfl (by omega) (fun a ha => by injection ha with ha; subst ha; exact add_none' ab ao 0) wx
    have D1 := Lib.hid (rput_any w (some ⟨ab, ao, none⟩) m c (ls.take m) hlb (by omega) (fun h => by cases h) h8b hb)
    have hT8 : ∀ x ∈ ls.take m ++ tailN (sumN (ls.take m)), x ≤ 255 := fun x hx => by
      rcases List.mem_append.1 hx with hx | hx
      · exact h8b x hx
      · have := tail_bytes _ x hx; omega
    have hTl : (ls.take m ++ tailN (sumN (ls.take m))).length = m + 4 := by rw [List.length_append, hlb]; rfl
    have D2 : Hid (∀ wx A2 c2, Below w.heap.size w wx → wx.ownsRow w.heap.size 5 1 (.slice A2 (m + 4) c2) (m + 4) (numL .u8 (ls.take m ++ tailN (sumN (ls.take m)))) → Calls Tryz.prog 29 #[.slice A2 (m + 4) c2, .slice (some ⟨ab, ao, none⟩) (m + 4) c] wx fun e w' => e = .returned (.bool (decide (ls.drop m = tailN (sumN (ls.take m))))) ∧ wx = w') := fun wx A2 c2 hbx hox => by
      rw [← cut_same hn]
      have hr : Row wx wx.heap.size A2 (m + 4) 1 (numF .u8 (ls.take m ++ tailN (sumN (ls.take m)))) := by
        have h := hox
        rw [← hTl] at h
        have := own_row h
        rw [hTl] at this
        exact this
      exact Huff.same_any wx A2 _ (m + 4) (m + 4) c2 c _ ls hTl hn (fun e => ((own_wf hox).1 e).1) (fun e => by cases e) hT8 h8 hr ((ha.below hbx).mono hbx.size)
    have HSR : Hid (∀ wx, Below w.heap.size w wx → Src wx (some ⟨ab, ao, none⟩) m c 1 (numL .u8 (ls.take m))) := fun wx h => src_num ((hb.below h).mono h.size) hlb (fun h => by cases h)
    unfold PutPost at D1
    have hE : cutE ls = if ls.drop m = tailN (sumN (ls.take m)) then 0 else 5 := by unfold cutE; rw [if_neg (by omega), hm4]
    have hO : cutO ls = if cutE ls = 0 then ls.take m else [] := by unfold cutO; rw [hm4]
    rw [hlb] at D1
    generalize hTG : ls.take m ++ tailN (sumN (ls.take m)) = T at *
    have HLB := Lib.hid hlb
    clear ha hac hab hb h8 h8b h4 hm4 hn hT8 hTl hTG hlb
    by_cases heq : ls.drop m = tailN (sumN (ls.take m))
    · rw [if_pos heq] at hE
      rw [hE, if_pos rfl] at hO
      rw [hE, hO, HLB.out]
      rw [decide_eq_true heq] at D2
      clear heq hE hO
      generalize ls.take m = M at *
      go_enter Tryz.func65, Tryz.ntmps65
      go_wp2_with fail
      refine D1.out.mono ?_
      rintro e w1 ⟨v1, rfl, ho1, hb1⟩
      obtain ⟨A1, c1, rfl⟩ := own_shape ho1
      have E2 := Lib.hid (D2.out w1 A1 c1 hb1 ho1)
      have HB1 := Lib.hid hb1
      clear D1 D2 ho1 hb1
      go_wp2_with fail
      refine E2.out.mono ?_
      rintro e w2 ⟨rfl, rfl⟩
      have HB2 : Hid (Below w.heap.size w (w1.alloc (.cells #[] 5))) := bel_alloc0 HB1.out
      have HO := Lib.hid (own_start (w := w1) (base := w.heap.size) HB1.out.size)
      have HS := Lib.hid (HSR.out _ HB2.out)
      have hz1 := HB2.out.size
      clear E2 HSR
      go_wp2_with (at_builtin; refine wpList_app rfl (.tmp 16) (.tmp 21) 22 rfl w.heap.size 5 j0 _ 1 1 Tryz.underlying22 hj0 hy0 hy1 hy2 rfl (by decide) _ _ _ (by rfl) HO.out _ _ _ _ (by rfl) HS.out (numL_one _ _) (by unfold maxLen; omega) (by omega) hz1 ?_; intro v4 w4 hown4 hg4 hat4; have HB4 : Hid (Below w.heap.size w w4) := HB2.out.grown hg4 hz1 (fun y hy => (World.ownsRow.lt HO.out y hy).1); have HO4 : Hid (w4.ownsRow w.heap.size 5 1 v4 m (numL .u8 M)) := (by have h := hown4; rw [Nat.zero_add] at h; exact h); clear hown4 hg4 hat4)
      go_ret2
      exact ⟨_, rfl, HO4.out, HB4.out⟩
    · rw [if_neg heq] at hE
      rw [hE, if_neg (by omega)] at hO
      rw [hE, hO]
      rw [decide_eq_false heq] at D2
      clear heq hE hO
      generalize ls.take m = M at *
      go_enter Tryz.func65, Tryz.ntmps65
      go_wp2_with fail
      refine D1.out.mono ?_
      rintro e w1 ⟨v1, rfl, ho1, hb1⟩
      obtain ⟨A1, c1, rfl⟩ := own_shape ho1
      have E2 := Lib.hid (D2.out w1 A1 c1 hb1 ho1)
      have HB1 := Lib.hid hb1
      clear D1 D2 ho1 hb1
      go_wp2_with fail
      refine E2.out.mono ?_
      rintro e w2 ⟨rfl, rfl⟩
      go_wp2_with fail
      go_ret2
      exact ⟨_, rfl, World.ownsRow_nil _ _ _ _, HB1.out⟩
def hdR (er : Int) (x : Nat) : Nat := if er ≠ 0 then 0 else x
def HeadPost (bs : List Nat) (w : World) (e : Ending) (w' : World) : Prop :=
  e = .returned (.tuple #[.int .i64 (hdR (hE8 bs) (hWay bs) : Nat), .int .i64 (hdR (hE8 bs) (hN bs) : Nat), .int .i64 (hdR (hE8 bs) (hP bs) : Nat), .int .i64 (hdR (hE8 bs) (hA3 bs) : Nat), .int .i64 (hE8 bs)]) ∧ Below w.heap.size w w'
set_option maxHeartbeats 2000000 in
set_option maxRecDepth 100000 in
theorem rhead_any (w : World) (X : Option Addr) (nX dX : Nat) (bs : List Nat) (hn : bs.length = nX) (hle : nX ≤ 100000) (hd : nX ≤ dX) (hX : X = none → nX = 0 ∧ dX = 0) (hXo : 0 < nX → ∀ a, X = some a → a.add 0 = a) (h8 : ∀ x ∈ bs, x ≤ 255) (ha : Row w w.heap.size X nX 1 (numF .u8 bs)) :
    Calls Tryz.prog 135 #[.slice X nX dX] w (HeadPost bs w) := by
  subst hn
  have C0 := Lib.hid (rnew_any w X bs.length dX bs rfl hle hX ha)
  have C1 : Hid (∀ wx g B d, RCur wx g w.heap.size bs B d 0 0 → Calls Tryz.prog 68 #[.pointer (some ⟨g, 0, none⟩)] wx fun e w' => e = .returned (.int .u8 (hWay bs : Nat)) ∧ RCur w' g w.heap.size bs B d (hA1 bs) (hE1 bs) ∧ Kept (Others g wx) wx w') := fun wx g B d hc => rbyte_any wx g _ bs B d 0 0 hle hc
  have C2 : Hid (1 < hWay bs → ∀ wx g B d, RCur wx g w.heap.size bs B d (hA1 bs) (hE1 bs) → Calls Tryz.prog 69 #[.pointer (some ⟨g, 0, none⟩), .int .i64 2] wx fun e w' => e = .returned (.tuple #[]) ∧ RCur w' g w.heap.size bs B d (hA1 bs) (hE2 bs) ∧ Kept (fun x => x ≠ g) wx w') := fun h1 wx g B d hc => by
    rw [show hE2 bs = failE (hE1 bs) 2 from if_pos h1]; exact rfail_any wx g _ bs B d _ _ 2 hc
  have C2' : Hid (¬ 1 < hWay bs → hE2 bs = hE1 bs) := fun h1 => if_neg h1
  have C3 : Hid (∀ wx g B d, RCur wx g w.heap.size bs B d (hA1 bs) (hE2 bs) → Calls Tryz.prog 67 #[.pointer (some ⟨g, 0, none⟩), .int .i64 32768] wx fun e w' => e = .returned (.int .i64 (hN bs : Nat)) ∧ RCur w' g w.heap.size bs B d (hA2 bs) (hE3 bs) ∧ Kept (Others g wx) wx w') := fun wx g B d hc => rint_any wx g _ bs B d _ _ 32768 hle h8 (by omega) hc
  have C4 : Hid (∀ wx g B d, RCur wx g w.heap.size bs B d (hA2 bs) (hE3 bs) → Calls Tryz.prog 67 #[.pointer (some ⟨g, 0, none⟩), .int .i64 32768] wx fun e w' => e = .returned (.int .i64 (hP bs : Nat)) ∧ RCur w' g w.heap.size bs B d (hA3 bs) (hE4 bs) ∧ Kept (Others g wx) wx w') := fun wx g B d hc => rint_any wx g _ bs B d _ _ 32768 hle h8 (by omega) hc
  have C5 : Hid (1032 * hP bs + 64 < hN bs → ∀ wx g B d, RCur wx g w.heap.size bs B d (hA3 bs) (hE4 bs) → Calls Tryz.prog 69 #[.pointer (some ⟨g, 0, none⟩), .int .i64 6] wx fun e w' => e = .returned (.tuple #[]) ∧ RCur w' g w.heap.size bs B d (hA3 bs) (hE5 bs) ∧ Kept (fun x => x ≠ g) wx w') := fun h1 wx g B d hc => by
    rw [show hE5 bs = failE (hE4 bs) 6 from if_pos h1]; exact rfail_any wx g _ bs B d _ _ 6 hc
  have C5' : Hid (¬ 1032 * hP bs + 64 < hN bs → hE5 bs = hE4 bs) := fun h1 => if_neg h1
  have hw8 := hWay_le h8
  have hn8 := hN_le h8
  have hp8 := hP_le h8
  have hA5l := hA5_le h8
  have C6 : Hid (∀ wx g B d, RCur wx g w.heap.size bs B d (hA3 bs) (hE5 bs) → Calls Tryz.prog 71 #[.pointer (some ⟨g, 0, none⟩), .int .i64 (hP bs : Nat)] wx fun e w' => ∃ v, e = .returned v ∧ w'.ownsRow wx.heap.size 5 1 v (hBody bs).length (numL .u8 (hBody bs)) ∧ RCur w' g w.heap.size bs B d (hA4 bs) (hE6 bs) ∧ Kept (Others g wx) wx w') := fun wx g B d hc => rtake_any wx g _ bs B d _ _ (hP bs) hle (by omega) hc
  have C7 : Hid (∀ wx g B d, RCur wx g w.heap.size bs B d (hA4 bs) (hE6 bs) → Calls Tryz.prog 71 #[.pointer (some ⟨g, 0, none⟩), .int .i64 4] wx fun e w' => ∃ v, e = .returned v ∧ w'.ownsRow wx.heap.size 5 1 v (takeO bs (hA4 bs) (hE6 bs) 4).length (numL .u8 (takeO bs (hA4 bs) (hE6 bs) 4)) ∧ RCur w' g w.heap.size bs B d (hA5 bs) (hE7 bs) ∧ Kept (Others g wx) wx w') := fun wx g B d hc => rtake_any wx g _ bs B d _ _ 4 hle (by omega) hc
  have h70 : hE7 bs = 0 → 0 < bs.length := fun h => by
    unfold hE7 at h
    have h6 : hE6 bs = 0 ∧ 4 ≤ bs.length - hA4 bs := by
      unfold takeE at h
      split at h
      · contradiction
      · rename_i h0
        split at h
        · cases h
        · exact ⟨by simpa using h0, by omega⟩
    omega
  have KS : Hid (hE7 bs = 0 → ∀ wx, (Instr.slice 22 (.slice X bs.length dX) none (some (.int .i64 (hA5 bs : Nat))) none).run Tryz.prog wx = .ok (.slice X (hA5 bs) dX) wx) := fun h wx =>
    run_cuth' (P := Tryz.prog) (t := 22) (s := 1) Tryz.underlying22 (fun _ => by kernel_rfl) X bs.length dX .i64 ((hA5 bs : Nat) : Int) (hA5 bs) rfl (by omega) (hXo (h70 h)) wx
  have C8 : Hid (hE7 bs = 0 → ∀ wx, Below w.heap.size w wx → Calls Tryz.prog 65 #[.slice X (hA5 bs) dX] wx (CutPost (bs.take (hA5 bs)) wx)) := fun h wx hb =>
    rcut_any wx X (hA5 bs) dX (bs.take (hA5 bs)) (by rw [List.length_take]; omega) (by omega) (by omega) (fun x hx => h8 x (List.mem_of_mem_take hx)) (row_num_take ((ha.below hb).mono hb.size) hA5l)
  have E8 : Hid ((hE7 bs = 0 → hE8 bs = cutE (bs.take (hA5 bs))) ∧ (hE7 bs ≠ 0 → hE8 bs = hE7 bs)) := ⟨fun h => if_neg (by rw [h]; simp), fun h => if_pos h⟩
  unfold HeadPost
  unfold CutPost at C8
  generalize hWay bs = wy at *
  generalize hN bs = n at *
  generalize hP bs = p at *
  generalize hA1 bs = a1 at *
  generalize hA2 bs = a2 at *
  generalize hA3 bs = a3 at *
  generalize hA4 bs = a4 at *
  generalize hE1 bs = e1 at *
  generalize hE2 bs = e2 at *
  generalize hE3 bs = e3 at *
  generalize hE4 bs = e4 at *
  generalize hE5 bs = e5 at *
  generalize hE6 bs = e6 at *
  generalize hE7 bs = e7 at *
  generalize takeO bs a4 e6 4 = tO at *
  generalize hBody bs = bO at *
  generalize cutE (bs.take (hA5 bs)) = ce at *
  generalize cutO (bs.take (hA5 bs)) = cO at *
  generalize hE8 bs = e8 at *
  generalize hA5 bs = a5 at *
  have s1 : IntKind.i64.wrap (wy : Int) = (wy : Int) := by rw [IntWalk.i64_in _ (by omega)]
  have s2 : IntKind.i64.wrap (1032 * (p : Int)) = 1032 * (p : Int) := by rw [IntWalk.i64_in _ (by omega)]
  have s3 : IntKind.i64.wrap (1032 * (p : Int) + 64) = 1032 * (p : Int) + 64 := by rw [IntWalk.i64_in _ (by omega)]
  clear h8 ha h70 hX hXo
  go_enter Tryz.func135, Tryz.ntmps135
  go_wp2_with fail
  refine C0.out.mono ?_
  rintro e w1 ⟨g, B, d, rfl, hc1, hb1⟩
  have hgl : w.heap.size ≤ g := hc1.lo
  have F1 := Lib.hid hc1
  have B1 := Lib.hid hb1
  replace C1 := Lib.hid (fun wx => C1.out wx g B d)
  replace C2 := Lib.hid (fun h wx => C2.out h wx g B d)
  replace C3 := Lib.hid (fun wx => C3.out wx g B d)
  replace C4 := Lib.hid (fun wx => C4.out wx g B d)
  replace C5 := Lib.hid (fun h wx => C5.out h wx g B d)
  replace C6 := Lib.hid (fun wx => C6.out wx g B d)
  replace C7 := Lib.hid (fun wx => C7.out wx g B d)
  clear hc1 hb1 C0
  go_wp2_with fail
  refine (C1.out _ F1.out).mono ?_
  rintro e w2 ⟨rfl, hc2, hk2⟩
  have F2 := Lib.hid hc2
  have B2 := Lib.hid (bel_on B1.out hgl hk2)
  clear hc2 hk2 F1 B1 C1
  by_cases hw1 : 1 < wy
  · have g1 : decide ((1 : Int) < (wy : Int)) = true := by simp; omega
    have g1' : decide (1 < wy) = true := by simp; omega
    go_wp2_with fail
    refine (C2.out hw1 _ F2.out).mono ?_
    rintro e w3 ⟨rfl, hc3, hk3⟩
    have F3 := Lib.hid hc3
    have B3 := Lib.hid (bel_ne B2.out hgl hk3)
    clear hc3 hk3 F2 B2 C2 C2' hw1 g1 g1'
    go_wp2_with fail
    refine (C3.out _ F3.out).mono ?_
    rintro e w4 ⟨rfl, hc4, hk4⟩
    have F4 := Lib.hid hc4
    have B4 := Lib.hid (bel_on B3.out hgl hk4)
    clear hc4 hk4 F3 B3 C3
    go_wp2_with fail
    refine (C4.out _ F4.out).mono ?_
    rintro e w5 ⟨rfl, hc5, hk5⟩
    have F5 := Lib.hid hc5
    have B5 := Lib.hid (bel_on B4.out hgl hk5)
    clear hc5 hk5 F4 B4 C4
    by_cases hlim : 1032 * p + 64 < n
    · have g4 : decide (1032 * (p : Int) + 64 < (n : Int)) = true := by simp; omega
      have g5 : decide (1032 * p + 64 < n) = true := by simp; omega
      go_wp2_with fail
      refine (C5.out hlim _ F5.out).mono ?_
      rintro e w6 ⟨rfl, hc6, hk6⟩
      have F6 := Lib.hid hc6
      have B6 := Lib.hid (bel_ne B5.out hgl hk6)
      clear hc6 hk6 F5 B5 C5 C5' hlim g4 g5
      have d1 := F6.out.cells.2.1
      go_wp2_with fail
      refine (C6.out _ F6.out).mono ?_
      rintro e w7 ⟨v7, rfl, ho7, hc7, hk7⟩
      obtain ⟨A7, c7, rfl⟩ := own_shape ho7
      have F7 := Lib.hid hc7
      have B7 := Lib.hid (bel_on B6.out hgl hk7)
      clear hc7 hk7 ho7 F6 B6 C6 d1
      go_wp2_with fail
      refine (C7.out _ F7.out).mono ?_
      rintro e w8 ⟨v8, rfl, ho8, hc8, hk8⟩
      obtain ⟨A8, c8, rfl⟩ := own_shape ho8
      have F8 := Lib.hid hc8
      have B8 := Lib.hid (bel_on B7.out hgl hk8)
      clear hc8 hk8 ho8 F7 B7 C7
      have d1 := F8.out.cells.2.1
      have d2 := F8.out.cells.2.2
      by_cases he7 : e7 = 0
      · have g7 : (e7 != 0) = false := by simp [he7]
        have ks := KS.out he7
        have C8' := Lib.hid (C8.out he7 w8 B8.out)
        have HE8 := Lib.hid (E8.out.1 he7)
        clear KS C8 E8 he7
        go_wp2_with fail
        refine C8'.out.mono ?_
        rintro e w9 ⟨v9, rfl, ho9, hb9⟩
        obtain ⟨A9, c9, rfl⟩ := own_shape ho9
        have B9 := Lib.hid (bel_step0 hb9 B8.out)
        clear ho9 hb9 C8' F8 B8
        by_cases hce : ce = 0
        · have g8 : (ce != 0) = false := by simp [hce]
          have HCE := Lib.hid hce
          clear hce
          go_wp2_with fail
          (try simp only [Exit.inBlock, Exit.then])
          refine bodyPost_ret (results_tmp5 rfl _ _ _) rfl ?_
          exact ⟨by simp [hdR, HE8.out, HCE.out], B9.out⟩
        · have g8 : (ce != 0) = true := by simpa using hce
          have HCE := Lib.hid hce
          clear hce
          go_wp2_with fail
          (try simp only [Exit.inBlock, Exit.then])
          refine bodyPost_ret (results_tmp5 rfl _ _ _) rfl ?_
          exact ⟨by simp [hdR, HE8.out, HCE.out], B9.out⟩
      · have g7 : (e7 != 0) = true := by simpa using he7
        have HE8 := Lib.hid (E8.out.2 he7)
        have HCE := Lib.hid he7
        clear KS C8 E8 he7
        go_wp2_with fail
        go_quiet (fail)
        go_wp2_with fail
        (try simp only [Exit.inBlock, Exit.then])
        refine bodyPost_ret (results_tmp5 rfl _ _ _) rfl ?_
        exact ⟨by simp [hdR, HE8.out, HCE.out], Below.drewN' B8.out _⟩
    · have g4 : decide (1032 * (p : Int) + 64 < (n : Int)) = false := by simp; omega
      have g5 : decide (1032 * p + 64 < n) = false := by simp; omega
      have F6 : Hid (RCur w5 g w.heap.size bs B d a3 e5) := by rw [C5'.out hlim]; exact F5.out
      have B6 := B5
      obtain ⟨w6, rfl⟩ : ∃ w6 : World, w6 = w5 := ⟨_, rfl⟩
      clear F5 B5 C5 C5' hlim
      have d1 := F6.out.cells.2.1
      go_wp2_with fail
      refine (C6.out _ F6.out).mono ?_
      rintro e w7 ⟨v7, rfl, ho7, hc7, hk7⟩
      obtain ⟨A7, c7, rfl⟩ := own_shape ho7
      have F7 := Lib.hid hc7
      have B7 := Lib.hid (bel_on B6.out hgl hk7)
      clear hc7 hk7 ho7 F6 B6 C6 d1
      go_wp2_with fail
      refine (C7.out _ F7.out).mono ?_
      rintro e w8 ⟨v8, rfl, ho8, hc8, hk8⟩
      obtain ⟨A8, c8, rfl⟩ := own_shape ho8
      have F8 := Lib.hid hc8
      have B8 := Lib.hid (bel_on B7.out hgl hk8)
      clear hc8 hk8 ho8 F7 B7 C7
      have d1 := F8.out.cells.2.1
      have d2 := F8.out.cells.2.2
      by_cases he7 : e7 = 0
      · have g7 : (e7 != 0) = false := by simp [he7]
        have ks := KS.out he7
        have C8' := Lib.hid (C8.out he7 w8 B8.out)
        have HE8 := Lib.hid (E8.out.1 he7)
        clear KS C8 E8 he7
        go_wp2_with fail
        refine C8'.out.mono ?_
        rintro e w9 ⟨v9, rfl, ho9, hb9⟩
        obtain ⟨A9, c9, rfl⟩ := own_shape ho9
        have B9 := Lib.hid (bel_step0 hb9 B8.out)
        clear ho9 hb9 C8' F8 B8
        by_cases hce : ce = 0
        · have g8 : (ce != 0) = false := by simp [hce]
          have HCE := Lib.hid hce
          clear hce
          go_wp2_with fail
          (try simp only [Exit.inBlock, Exit.then])
          refine bodyPost_ret (results_tmp5 rfl _ _ _) rfl ?_
          exact ⟨by simp [hdR, HE8.out, HCE.out], B9.out⟩
        · have g8 : (ce != 0) = true := by simpa using hce
          have HCE := Lib.hid hce
          clear hce
          go_wp2_with fail
          (try simp only [Exit.inBlock, Exit.then])
          refine bodyPost_ret (results_tmp5 rfl _ _ _) rfl ?_
          exact ⟨by simp [hdR, HE8.out, HCE.out], B9.out⟩
      · have g7 : (e7 != 0) = true := by simpa using he7
        have HE8 := Lib.hid (E8.out.2 he7)
        have HCE := Lib.hid he7
        clear KS C8 E8 he7
        go_wp2_with fail
        go_quiet (fail)
        go_wp2_with fail
        (try simp only [Exit.inBlock, Exit.then])
        refine bodyPost_ret (results_tmp5 rfl _ _ _) rfl ?_
        exact ⟨by simp [hdR, HE8.out, HCE.out], Below.drewN' B8.out _⟩
  · have g1 : decide ((1 : Int) < (wy : Int)) = false := by simp; omega
    have g1' : decide (1 < wy) = false := by simp; omega
    have F3 : Hid (RCur w2 g w.heap.size bs B d a1 e2) := by rw [C2'.out hw1]; exact F2.out
    have B3 := B2
    obtain ⟨w3, rfl⟩ : ∃ w3 : World, w3 = w2 := ⟨_, rfl⟩
    clear F2 B2 C2 C2' hw1
    go_wp2_with fail
    refine (C3.out _ F3.out).mono ?_
    rintro e w4 ⟨rfl, hc4, hk4⟩
    have F4 := Lib.hid hc4
    have B4 := Lib.hid (bel_on B3.out hgl hk4)
    clear hc4 hk4 F3 B3 C3
    go_wp2_with fail
    refine (C4.out _ F4.out).mono ?_
    rintro e w5 ⟨rfl, hc5, hk5⟩
    have F5 := Lib.hid hc5
    have B5 := Lib.hid (bel_on B4.out hgl hk5)
    clear hc5 hk5 F4 B4 C4
    by_cases hlim : 1032 * p + 64 < n
    · have g4 : decide (1032 * (p : Int) + 64 < (n : Int)) = true := by simp; omega
      have g5 : decide (1032 * p + 64 < n) = true := by simp; omega
      go_wp2_with fail
      refine (C5.out hlim _ F5.out).mono ?_
      rintro e w6 ⟨rfl, hc6, hk6⟩
      have F6 := Lib.hid hc6
      have B6 := Lib.hid (bel_ne B5.out hgl hk6)
      clear hc6 hk6 F5 B5 C5 C5' hlim g4 g5
      have d1 := F6.out.cells.2.1
      go_wp2_with fail
      refine (C6.out _ F6.out).mono ?_
      rintro e w7 ⟨v7, rfl, ho7, hc7, hk7⟩
      obtain ⟨A7, c7, rfl⟩ := own_shape ho7
      have F7 := Lib.hid hc7
      have B7 := Lib.hid (bel_on B6.out hgl hk7)
      clear hc7 hk7 ho7 F6 B6 C6 d1
      go_wp2_with fail
      refine (C7.out _ F7.out).mono ?_
      rintro e w8 ⟨v8, rfl, ho8, hc8, hk8⟩
      obtain ⟨A8, c8, rfl⟩ := own_shape ho8
      have F8 := Lib.hid hc8
      have B8 := Lib.hid (bel_on B7.out hgl hk8)
      clear hc8 hk8 ho8 F7 B7 C7
      have d1 := F8.out.cells.2.1
      have d2 := F8.out.cells.2.2
      by_cases he7 : e7 = 0
      · have g7 : (e7 != 0) = false := by simp [he7]
        have ks := KS.out he7
        have C8' := Lib.hid (C8.out he7 w8 B8.out)
        have HE8 := Lib.hid (E8.out.1 he7)
        clear KS C8 E8 he7
        go_wp2_with fail
        refine C8'.out.mono ?_
        rintro e w9 ⟨v9, rfl, ho9, hb9⟩
        obtain ⟨A9, c9, rfl⟩ := own_shape ho9
        have B9 := Lib.hid (bel_step0 hb9 B8.out)
        clear ho9 hb9 C8' F8 B8
        by_cases hce : ce = 0
        · have g8 : (ce != 0) = false := by simp [hce]
          have HCE := Lib.hid hce
          clear hce
          go_wp2_with fail
          (try simp only [Exit.inBlock, Exit.then])
          refine bodyPost_ret (results_tmp5 rfl _ _ _) rfl ?_
          exact ⟨by simp [hdR, HE8.out, HCE.out], B9.out⟩
        · have g8 : (ce != 0) = true := by simpa using hce
          have HCE := Lib.hid hce
          clear hce
          go_wp2_with fail
          (try simp only [Exit.inBlock, Exit.then])
          refine bodyPost_ret (results_tmp5 rfl _ _ _) rfl ?_
          exact ⟨by simp [hdR, HE8.out, HCE.out], B9.out⟩
      · have g7 : (e7 != 0) = true := by simpa using he7
        have HE8 := Lib.hid (E8.out.2 he7)
        have HCE := Lib.hid he7
        clear KS C8 E8 he7
        go_wp2_with fail
        go_quiet (fail)
        go_wp2_with fail
        (try simp only [Exit.inBlock, Exit.then])
        refine bodyPost_ret (results_tmp5 rfl _ _ _) rfl ?_
        exact ⟨by simp [hdR, HE8.out, HCE.out], Below.drewN' B8.out _⟩
    · have g4 : decide (1032 * (p : Int) + 64 < (n : Int)) = false := by simp; omega
      have g5 : decide (1032 * p + 64 < n) = false := by simp; omega
      have F6 : Hid (RCur w5 g w.heap.size bs B d a3 e5) := by rw [C5'.out hlim]; exact F5.out
      have B6 := B5
      obtain ⟨w6, rfl⟩ : ∃ w6 : World, w6 = w5 := ⟨_, rfl⟩
      clear F5 B5 C5 C5' hlim
      have d1 := F6.out.cells.2.1
      go_wp2_with fail
      refine (C6.out _ F6.out).mono ?_
      rintro e w7 ⟨v7, rfl, ho7, hc7, hk7⟩
      obtain ⟨A7, c7, rfl⟩ := own_shape ho7
      have F7 := Lib.hid hc7
      have B7 := Lib.hid (bel_on B6.out hgl hk7)
      clear hc7 hk7 ho7 F6 B6 C6 d1
      go_wp2_with fail
      refine (C7.out _ F7.out).mono ?_
      rintro e w8 ⟨v8, rfl, ho8, hc8, hk8⟩
      obtain ⟨A8, c8, rfl⟩ := own_shape ho8
      have F8 := Lib.hid hc8
      have B8 := Lib.hid (bel_on B7.out hgl hk8)
      clear hc8 hk8 ho8 F7 B7 C7
      have d1 := F8.out.cells.2.1
      have d2 := F8.out.cells.2.2
      by_cases he7 : e7 = 0
      · have g7 : (e7 != 0) = false := by simp [he7]
        have ks := KS.out he7
        have C8' := Lib.hid (C8.out he7 w8 B8.out)
        have HE8 := Lib.hid (E8.out.1 he7)
        clear KS C8 E8 he7
        go_wp2_with fail
        refine C8'.out.mono ?_
        rintro e w9 ⟨v9, rfl, ho9, hb9⟩
        obtain ⟨A9, c9, rfl⟩ := own_shape ho9
        have B9 := Lib.hid (bel_step0 hb9 B8.out)
        clear ho9 hb9 C8' F8 B8
        by_cases hce : ce = 0
        · have g8 : (ce != 0) = false := by simp [hce]
          have HCE := Lib.hid hce
          clear hce
          go_wp2_with fail
          (try simp only [Exit.inBlock, Exit.then])
          refine bodyPost_ret (results_tmp5 rfl _ _ _) rfl ?_
          exact ⟨by simp [hdR, HE8.out, HCE.out], B9.out⟩
        · have g8 : (ce != 0) = true := by simpa using hce
          have HCE := Lib.hid hce
          clear hce
          go_wp2_with fail
          (try simp only [Exit.inBlock, Exit.then])
          refine bodyPost_ret (results_tmp5 rfl _ _ _) rfl ?_
          exact ⟨by simp [hdR, HE8.out, HCE.out], B9.out⟩
      · have g7 : (e7 != 0) = true := by simpa using he7
        have HE8 := Lib.hid (E8.out.2 he7)
        have HCE := Lib.hid he7
        clear KS C8 E8 he7
        go_wp2_with fail
        go_quiet (fail)
        go_wp2_with fail
        (try simp only [Exit.inBlock, Exit.then])
        refine bodyPost_ret (results_tmp5 rfl _ _ _) rfl ?_
        exact ⟨by simp [hdR, HE8.out, HCE.out], Below.drewN' B8.out _⟩
end Go.Proofs.YtmgjgkdbagbleaaGreatDoor.Block
