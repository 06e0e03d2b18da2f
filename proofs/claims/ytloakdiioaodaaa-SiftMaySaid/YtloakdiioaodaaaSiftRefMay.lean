/-
  The walk of firkinref35.May.
-/
import Derived.Test.YtloakdiioaodaaaSiftRef
import Derived.Test.YtloakdiioaodaaaSiftMay
namespace Go.Proofs.Ytloakdiioaodaaa.Sift
open Go.RowKit Go.Proofs.Ytloakdiioaodaaa.Mem Go.Proofs.Ytloakdiioaodaaa.Own Go.Proofs.Ytloakdiioaodaaa.Canon

set_option maxHeartbeats 1000000 in
set_option maxRecDepth 100000 in
theorem rmay_any (w : World) (tm lv : Int) (src text needle : ByteArray) (hs : text.size ≤ 100000) (hs2 : needle.size ≤ 100000) :
    Calls Try.prog 11 #[.agg #[.int .u64 tm, .int .u8 lv, .string src, .string text], .string needle] w fun e w' => e = .returned (.bool (mayB text.data.toList needle.data.toList)) ∧ Below w.heap.size w w' := by
  obtain ⟨j0, hj0, hy0, hy1, hy2⟩ := info_parts info_u8
  have D1 := Lib.hid (fun wx => rwords_any wx text hs)
  unfold WordsPost at D1
  unfold mayB
  have hwc := split_count text.data.toList []
  have hwl : ∀ x ∈ words text.data.toList, x.length ≤ 100000 := fun x hx => by have := split_le _ _ x hx; omega
  have e1 : text.data.toList.length = text.size := (Lib.size_eq text).symm
  rw [e1, List.length_nil] at hwc
  change (words text.data.toList).length ≤ _ at hwc
  clear e1
  generalize words text.data.toList = ws at *
  generalize hn : ws.length = n at *
  have HN := Lib.hid hn
  have HWL := Lib.hid hwl
  have hlen := Lib.size_eq needle
  obtain ⟨l, hl⟩ : ∃ l, l = needle.data.toList := ⟨_, rfl⟩
  have HL := Lib.hid hl
  rw [← hl] at hlen ⊢
  have HLEN := Lib.hid hlen
  clear hn hwl hl hlen
  go_enter Try.func11, Try.ntmps11
  go_wp2_with fail
  refine (D1.out _).mono ?_
  rintro e w1 ⟨v1, rfl, hown1, hb1⟩
  obtain ⟨A1, c1, rfl⟩ := own_shape hown1
  have HB1 : Hid (Below w.heap.size w w1) := (bel_alloc0 (Below.refl _ _)).trans (hb1.mono (by simp))
  have hrow1 : Row w1 w1.heap.size A1 n 1 (strF ws) := by
    rw [← HN.out] at hown1 ⊢
    exact strF_row hown1
  have HR1 := Lib.hid hrow1
  clear hown1 hb1 D1 hrow1
  go_wp2_with fail
  go_loopw [6] (fun i wr => ∃ k : Nat, k ≤ needle.size ∧ i = .int .i64 k ∧ Hid ((runs (decide (k = 0)) (l.drop k)).all (fun r => ws.any (fitsB r)) = (runs true l).all (fun r => ws.any (fitsB r))) ∧ Hid (Below w1.heap.size w1 wr)) (fun i _ => needle.size - (intOf i).toNat)
  case atStart => exact ⟨0, by omega, rfl, rfl, Below.refl _ _⟩
  case round =>
    obtain ⟨k, hk, rfl, hA, HB⟩ := hrel
    have hz := HB.out.size
    by_cases hlt : k < needle.size
    · have x0 : (0 : Int) ≤ (k : Int) := by omega
      have x1 : (k : Int) < (needle.size : Int) := by omega
      have hd := drop_at hlt
      rw [← HL.out] at hd
      obtain ⟨Rn, hRn⟩ : ∃ Rn, Rn = run (l.drop k) := ⟨_, rfl⟩
      obtain ⟨J, hJ⟩ : ∃ J, J = Rn.length := ⟨_, rfl⟩
      have hJs : k + J ≤ needle.size := by
        have := run_le (l.drop k)
        rw [List.length_drop, ← HLEN.out] at this
        rw [hJ, hRn]
        omega
      have hget : ∀ j, j < J → ∃ c, (l.drop k)[j]? = some c ∧ letB c = true ∧ Rn[j]? = some (smallB c) := fun j h => by
        rw [hJ, hRn] at h
        obtain ⟨c, h1, h2⟩ := run_lets _ _ h
        exact ⟨c, h1, h2, by rw [hRn]; exact run_get h h1⟩
      have hend : ∀ c, (l.drop k)[J]? = some c → letB c = false := by rw [hJ, hRn]; exact fun c h => run_stop _ c h
      have HGET := Lib.hid hget
      have HEND := Lib.hid hend
      have HJ := Lib.hid hJ
      have HD := Lib.hid hd
      have HRN0 := Lib.hid hRn
      clear hget hend hJ hd hRn
      go_wp2_with fail
      obtain ⟨w0, rfl⟩ : ∃ w0 : World, w0 = wr := ⟨_, rfl⟩
      go_loopw [7, 8] (fun u a wx => ∃ m : Nat, m ≤ J ∧ a = .int .i64 (k + m : Nat) ∧ Hid (wx.ownsRow w0.heap.size 5 1 u m (byL (Rn.take m))) ∧ Hid (Below w0.heap.size w0 wx)) (fun _ a _ => k + J - (intOf a).toNat)
      case atStart => exact ⟨0, by omega, by first | rfl | go_num, World.ownsRow_nil _ _ _ _, Below.refl _ _⟩
      case round =>
        obtain ⟨m, hm, rfl, HO2, HB2⟩ := hrel
        have hzw := HB2.out.size
        obtain ⟨va2, vc2, rfl⟩ := own_shape HO2.out
        have y2 : (0 : Int) ≤ ((k + m : Nat) : Int) := by omega
        by_cases hmJ : m < J
        · obtain ⟨c, hc1, hc2, hc3⟩ := HGET.out m hmJ
          have hms : k + m < needle.size := by omega
          rw [List.getElem?_drop, HL.out, byte_at needle (k + m) hms] at hc1
          injection hc1 with hc1
          subst hc1
          rw [letB_nat] at hc2
          have D := fun wx => rsmall_any needle[k + m].toNat (UInt8.toNat_lt _) wx
          have hne := small_ne hc2
          have htk : Rn.take (m + 1) = Rn.take m ++ [smallB needle[k + m]] := by rw [List.take_add_one, hc3]; rfl
          have hbl : byL (Rn.take (m + 1)) = byL (Rn.take m) ++ [.int .u8 (smallN needle[k + m].toNat : Nat)] := by rw [htk, byL_snoc, smallB_nat]
          generalize smallN needle[k + m].toNat = v at *
          have D := Lib.hid D
          have HBL := Lib.hid hbl
          have n3 : ((v : Int) != 0) = true := by simp; omega
          have y3 : ((k + m : Nat) : Int) < (needle.size : Int) := by omega
          clear hc2 hc3 hne htk hbl
          go_wp2_with fail
          refine (D.out _).mono ?_
          rintro e w1 ⟨rfl, rfl⟩
          go_wp2_with fail
          refine (D.out _).mono ?_
          rintro e w1 ⟨rfl, rfl⟩
          go_wp2_with (at_builtin; refine wpList_app rfl (.tmp 30) (.tmp 35) 30 rfl w0.heap.size 5 j0 _ 1 1 Try.underlying30 hj0 hy0 hy1 hy2 rfl (by decide) _ _ _ (by rfl) (HO2.out.alloc _) _ 1 1 [.int .u8 v] (by rfl) (Src.of_blk (Blk.made _ _ _) 1 1 1 rfl) (by intro u hu; simp at hu; rcases hu with rfl; rfl) (by unfold maxLen; omega) (by omega) (by simp; omega) ?_; intro v4 w4 hown4 hg4 hat4)
          go_roundw
          case measure => go_light; simp [intOf]; omega
          case rel =>
            go_light
            refine ⟨m + 1, by omega, by go_num, ?_, ?_⟩
            · show World.ownsRow _ _ _ _ _ _ _; rw [HBL.out]; exact hown4
            · exact (bel_alloc hzw HB2.out).grown hg4 (by simp; omega) (fun y hy => (World.ownsRow.lt HO2.out y hy).1)
        · have hmj : m = J := by omega
          have HB5 : Hid (Below w1.heap.size w1 wr) := HB.out.trans (HB2.out.mono hz)
          obtain ⟨w5, rfl⟩ : ∃ w5 : World, w5 = wr := ⟨_, rfl⟩
          by_cases hms : k + m < needle.size
          · have y3 : ((k + m : Nat) : Int) < (needle.size : Int) := by omega
            have hc1 : (l.drop k)[J]? = some needle[k + m] := by rw [← hmj, List.getElem?_drop, HL.out]; exact byte_at needle (k + m) hms
            have D := fun wx => rsmall_any needle[k + m].toNat (UInt8.toNat_lt _) wx
            have hlt2 := HEND.out _ hc1
            rw [letB_nat] at hlt2
            rw [small_zero hlt2] at D
            have D := Lib.hid D
            clear hc1 hlt2
            by_cases hJ0 : J = 0
            · have e9 : ((k : Int) + (m : Int) == (k : Int)) = true := by simp; omega
              have hlk : letB needle[k] = false := HEND.out _ (by rw [hJ0, HD.out]; rfl)
              have ha := hA.out
              rw [HD.out, runs, if_neg (by rw [hlk]; simp)] at ha
              have HA := Lib.hid ha
              have HM := Lib.hid hmj
              clear ha hlk hJ0 hmj
              go_wp2_with fail
              refine (D.out _).mono ?_
              rintro e w7 ⟨rfl, rfl⟩
              go_wp2_with fail
              go_roundw
              case measure => go_light; simp [intOf]; omega
              case rel => go_light; exact ⟨k + 1, by omega, by go_num, by rw [decide_eq_false (by omega)]; exact HA.out, HB5.out⟩
            · have e9 : ((k : Int) + (m : Int) == (k : Int)) = false := by rw [Bool.eq_false_iff]; intro h; simp at h; omega
              have hlk : letB needle[k] = true := by
                obtain ⟨c, h1, h2, _⟩ := HGET.out 0 (by omega)
                rw [HD.out] at h1
                injection h1 with h1
                rw [h1]
                exact h2
              have ha := hA.out
              rw [HD.out, runs, if_pos hlk, ← HD.out, rest_drop, ← HRN0.out, ← HJ.out, List.drop_drop, List.all_cons] at ha
              obtain ⟨a, haa⟩ : ∃ a, a = decide (k = 0) := ⟨_, rfl⟩
              obtain ⟨bb, hbb⟩ : ∃ bb, bb = (l.drop (k + J) == []) := ⟨_, rfl⟩
              rw [← haa, ← hbb] at ha
              have e7 : ((k : Int) == 0) = a := by rw [haa, Bool.eq_iff_iff]; simp
              have e8 : ((k : Int) + (m : Int) == (needle.size : Int)) = bb := by
                rw [hbb, Bool.eq_iff_iff, beq_iff_eq, beq_iff_eq, ← List.length_eq_zero_iff, List.length_drop, ← HLEN.out]
                omega
              have hRs : Rn.length ≤ 100000 := by rw [← HJ.out]; omega
              have HF : Hid (∀ x wx, x.length ≤ 100000 → Calls Try.prog 26 #[.string (bs x), .string (bs Rn), .bool a, .bool bb] wx fun e w' => e = .returned (.bool (fitsB ⟨Rn, a, bb⟩ x)) ∧ w' = wx) := fun x wx h => rfits_any wx x Rn a bb h hRs
              have htk : Rn.take m = Rn := List.take_of_length_le (by rw [← HJ.out]; omega)
              have hown := HO2.out
              rw [htk] at hown
              obtain ⟨g, cg, hvg, _⟩ := hown.form (by omega)
              injection hvg with eg1 eg2 eg3
              subst eg1 eg3
              have hgl := (World.ownsRow.lt hown g rfl).2
              have KD : Hid (∀ wx : World, wx.heap[g]? = w5.heap[g]? → (convert 30 9 (.slice (some ⟨g, 0, none⟩) m vc2)).run Try.prog wx = .ok (.string (bs Rn)) wx) := fun wx h => own_bytes_str hown (by rw [← HJ.out]; omega) (by omega) wx (fun g' h' => by simp [Value.ownBlock] at h'; rw [← h']; exact h)
              generalize fitsB ⟨Rn, a, bb⟩ = P at *
              have HA := Lib.hid ha
              have HM := Lib.hid hmj
              have hJ1 : 1 ≤ J := by omega
              clear ha hlk haa hbb hRs htk hown hmj hJ0 HO2
              go_wp2_with fail
              refine (D.out _).mono ?_
              rintro e w7 ⟨rfl, rfl⟩
              go_wp2_with fail
              go_loopw [9, 10] (fun b i wx => ∃ (z : Bool) (y : Nat), y ≤ n ∧ b = .bool z ∧ i = .int .i64 y ∧ Hid ((z || (ws.drop y).any P) = ws.any P) ∧ Hid (Below w5.heap.size w5 wx)) (fun _ i _ => n - (intOf i).toNat)
              case atStart => exact ⟨false, 0, by omega, rfl, rfl, by show _ = _; simp, Below.refl _ _⟩
              case round =>
                obtain ⟨z, y, hy, rfl, rfl, HZ, HB6⟩ := hrel
                have hz6 := HB6.out.size
                by_cases hlt3 : y < n
                · obtain ⟨ob, off, rfl, hob, hcell⟩ := HR1.out (by omega)
                  have hyl : y < ws.length := by rw [HN.out]; exact hlt3
                  have x3 : (0 : Int) ≤ (y : Int) := by omega
                  have x4 : (y : Int) < (n : Int) := by omega
                  have hzz := HZ.out
                  rw [any_drop hyl] at hzz
                  have hwy := HWL.out (ws.getD y []) (by rw [List.getD_eq_getElem?_getD, List.getElem?_eq_getElem hyl]; exact List.getElem_mem hyl)
                  have hz5 := HB5.out.size
                  have c9 := (HB6.out.cell (p := ⟨ob, _, none⟩) (by show ob < _; omega)).trans ((HB5.out.cell (p := ⟨ob, _, none⟩) hob).trans (hcell y 0 hlt3 (by omega)))
                  simp only [strF, Nat.mul_one, Nat.add_zero] at c9
                  generalize ws.getD y [] = x at *
                  have kd := fun q => KD.out (wr.drewN q) (HB6.out.block g (by omega))
                  have F := fun wx => HF.out x wx hwy
                  generalize P x = fb at *
                  have HZZ := Lib.hid hzz
                  have F := Lib.hid F
                  clear hcell hyl hzz hwy
                  cases z
                  · go_wp2_with fail
                    go_quiet (first | (go_at_call 26; exact Calls.quiet_of_same (F.out _)))
                    go_wp2_with fail
                    go_roundw
                    case measure => go_light; simp [intOf]; omega
                    case rel => go_light; exact ⟨fb, y + 1, by omega, rfl, by go_num, by have h := HZZ.out; rw [Bool.false_or] at h; exact h, below_drewN HB6.out _⟩
                  · go_wp2_with fail
                    go_quiet (fail)
                    go_wp2_with fail
                    go_roundw
                    case measure => go_light; simp [intOf]; omega
                    case rel => go_light; exact ⟨true, y + 1, by omega, rfl, by go_num, by have h := HZZ.out; rw [Bool.true_or] at h; show _ = _; rw [Bool.true_or]; exact h, below_drewN HB6.out _⟩
                · obtain rfl : y = n := by omega
                  have hzz := HZ.out
                  rw [List.drop_of_length_le (by rw [HN.out]; exact Nat.le_refl _), List.any_nil, Bool.or_false] at hzz
                  have ha := HA.out
                  rw [← hzz] at ha
                  have HA2 := Lib.hid ha
                  have hz5 := HB5.out.size
                  clear hzz ha
                  cases z
                  · go_wp2_with fail
                    go_ret
                    exact ⟨ret_bool (by rw [← HA2.out, Bool.false_and]), HB1.out.trans ((HB5.out.trans (HB6.out.mono hz5)).mono HB1.out.size)⟩
                  · go_wp2_with fail
                    go_roundw
                    case measure => go_light; have := HM.out; simp [intOf]; omega
                    case rel => go_light; exact ⟨k + J, by omega, by have := HM.out; go_num, by have h := HA2.out; rw [Bool.true_and] at h; show _ = _; rw [decide_eq_false (by omega)]; exact h, HB5.out.trans (HB6.out.mono hz5)⟩
          · have y3 : decide ((k : Int) + (m : Int) < (needle.size : Int)) = false := by simp; omega
            have y3' : decide (k + m < needle.size) = false := by simp; omega
            by_cases hJ0 : J = 0
            · have e9 : ((k : Int) + (m : Int) == (k : Int)) = true := by simp; omega
              have hlk : letB needle[k] = false := HEND.out _ (by rw [hJ0, HD.out]; rfl)
              have ha := hA.out
              rw [HD.out, runs, if_neg (by rw [hlk]; simp)] at ha
              have HA := Lib.hid ha
              have HM := Lib.hid hmj
              clear ha hlk hJ0 hmj
              go_wp2_with fail
              go_roundw
              case measure => go_light; simp [intOf]; omega
              case rel => go_light; exact ⟨k + 1, by omega, by go_num, by rw [decide_eq_false (by omega)]; exact HA.out, HB5.out⟩
            · have e9 : ((k : Int) + (m : Int) == (k : Int)) = false := by rw [Bool.eq_false_iff]; intro h; simp at h; omega
              have hlk : letB needle[k] = true := by
                obtain ⟨c, h1, h2, _⟩ := HGET.out 0 (by omega)
                rw [HD.out] at h1
                injection h1 with h1
                rw [h1]
                exact h2
              have ha := hA.out
              rw [HD.out, runs, if_pos hlk, ← HD.out, rest_drop, ← HRN0.out, ← HJ.out, List.drop_drop, List.all_cons] at ha
              obtain ⟨a, haa⟩ : ∃ a, a = decide (k = 0) := ⟨_, rfl⟩
              obtain ⟨bb, hbb⟩ : ∃ bb, bb = (l.drop (k + J) == []) := ⟨_, rfl⟩
              rw [← haa, ← hbb] at ha
              have e7 : ((k : Int) == 0) = a := by rw [haa, Bool.eq_iff_iff]; simp
              have e8 : ((k : Int) + (m : Int) == (needle.size : Int)) = bb := by
                rw [hbb, Bool.eq_iff_iff, beq_iff_eq, beq_iff_eq, ← List.length_eq_zero_iff, List.length_drop, ← HLEN.out]
                omega
              have hRs : Rn.length ≤ 100000 := by rw [← HJ.out]; omega
              have HF : Hid (∀ x wx, x.length ≤ 100000 → Calls Try.prog 26 #[.string (bs x), .string (bs Rn), .bool a, .bool bb] wx fun e w' => e = .returned (.bool (fitsB ⟨Rn, a, bb⟩ x)) ∧ w' = wx) := fun x wx h => rfits_any wx x Rn a bb h hRs
              have htk : Rn.take m = Rn := List.take_of_length_le (by rw [← HJ.out]; omega)
              have hown := HO2.out
              rw [htk] at hown
              obtain ⟨g, cg, hvg, _⟩ := hown.form (by omega)
              injection hvg with eg1 eg2 eg3
              subst eg1 eg3
              have hgl := (World.ownsRow.lt hown g rfl).2
              have KD : Hid (∀ wx : World, wx.heap[g]? = w5.heap[g]? → (convert 30 9 (.slice (some ⟨g, 0, none⟩) m vc2)).run Try.prog wx = .ok (.string (bs Rn)) wx) := fun wx h => own_bytes_str hown (by rw [← HJ.out]; omega) (by omega) wx (fun g' h' => by simp [Value.ownBlock] at h'; rw [← h']; exact h)
              generalize fitsB ⟨Rn, a, bb⟩ = P at *
              have HA := Lib.hid ha
              have HM := Lib.hid hmj
              have hJ1 : 1 ≤ J := by omega
              clear ha hlk haa hbb hRs htk hown hmj hJ0 HO2
              go_wp2_with fail
              go_loopw [9, 10] (fun b i wx => ∃ (z : Bool) (y : Nat), y ≤ n ∧ b = .bool z ∧ i = .int .i64 y ∧ Hid ((z || (ws.drop y).any P) = ws.any P) ∧ Hid (Below w5.heap.size w5 wx)) (fun _ i _ => n - (intOf i).toNat)
              case atStart => exact ⟨false, 0, by omega, rfl, rfl, by show _ = _; simp, Below.refl _ _⟩
              case round =>
                obtain ⟨z, y, hy, rfl, rfl, HZ, HB6⟩ := hrel
                have hz6 := HB6.out.size
                by_cases hlt3 : y < n
                · obtain ⟨ob, off, rfl, hob, hcell⟩ := HR1.out (by omega)
                  have hyl : y < ws.length := by rw [HN.out]; exact hlt3
                  have x3 : (0 : Int) ≤ (y : Int) := by omega
                  have x4 : (y : Int) < (n : Int) := by omega
                  have hzz := HZ.out
                  rw [any_drop hyl] at hzz
                  have hwy := HWL.out (ws.getD y []) (by rw [List.getD_eq_getElem?_getD, List.getElem?_eq_getElem hyl]; exact List.getElem_mem hyl)
                  have hz5 := HB5.out.size
                  have c9 := (HB6.out.cell (p := ⟨ob, _, none⟩) (by show ob < _; omega)).trans ((HB5.out.cell (p := ⟨ob, _, none⟩) hob).trans (hcell y 0 hlt3 (by omega)))
                  simp only [strF, Nat.mul_one, Nat.add_zero] at c9
                  generalize ws.getD y [] = x at *
                  have kd := fun q => KD.out (wr.drewN q) (HB6.out.block g (by omega))
                  have F := fun wx => HF.out x wx hwy
                  generalize P x = fb at *
                  have HZZ := Lib.hid hzz
                  have F := Lib.hid F
                  clear hcell hyl hzz hwy
                  cases z
                  · go_wp2_with fail
                    go_quiet (first | (go_at_call 26; exact Calls.quiet_of_same (F.out _)))
                    go_wp2_with fail
                    go_roundw
                    case measure => go_light; simp [intOf]; omega
                    case rel => go_light; exact ⟨fb, y + 1, by omega, rfl, by go_num, by have h := HZZ.out; rw [Bool.false_or] at h; exact h, below_drewN HB6.out _⟩
                  · go_wp2_with fail
                    go_quiet (fail)
                    go_wp2_with fail
                    go_roundw
                    case measure => go_light; simp [intOf]; omega
                    case rel => go_light; exact ⟨true, y + 1, by omega, rfl, by go_num, by have h := HZZ.out; rw [Bool.true_or] at h; show _ = _; rw [Bool.true_or]; exact h, below_drewN HB6.out _⟩
                · obtain rfl : y = n := by omega
                  have hzz := HZ.out
                  rw [List.drop_of_length_le (by rw [HN.out]; exact Nat.le_refl _), List.any_nil, Bool.or_false] at hzz
                  have ha := HA.out
                  rw [← hzz] at ha
                  have HA2 := Lib.hid ha
                  have hz5 := HB5.out.size
                  clear hzz ha
                  cases z
                  · go_wp2_with fail
                    go_ret
                    exact ⟨ret_bool (by rw [← HA2.out, Bool.false_and]), HB1.out.trans ((HB5.out.trans (HB6.out.mono hz5)).mono HB1.out.size)⟩
                  · go_wp2_with fail
                    go_roundw
                    case measure => go_light; have := HM.out; simp [intOf]; omega
                    case rel => go_light; exact ⟨k + J, by omega, by have := HM.out; go_num, by have h := HA2.out; rw [Bool.true_and] at h; show _ = _; rw [decide_eq_false (by omega)]; exact h, HB5.out.trans (HB6.out.mono hz5)⟩
    · obtain rfl : k = needle.size := by omega
      have ha := hA.out
      rw [List.drop_of_length_le (by rw [HLEN.out]; exact Nat.le_refl _), runs] at ha
      have HA := Lib.hid ha
      clear ha hA
      go_wp2_with fail
      go_ret
      exact ⟨ret_bool (by rw [← HA.out]; rfl), HB1.out.trans (HB.out.mono HB1.out.size)⟩
end Go.Proofs.Ytloakdiioaodaaa.Sift
