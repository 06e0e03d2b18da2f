/-
  The walk of sift.runs: the runs of a needle.
-/
import Derived.Test.YtloakdiioaodaaaSiftSmall
import Derived.Test.YtloakdiioaodaaaApp
import Derived.Test.YtloakdiioaodaaaOwnBase
namespace Go.Proofs.Ytloakdiioaodaaa.Sift
open Go.RowKit Go.Proofs.Ytloakdiioaodaaa.Mem Go.Proofs.Ytloakdiioaodaaa.Own

theorem run_lets : ∀ (l : List UInt8) (j : Nat), j < (run l).length → ∃ c, l[j]? = some c ∧ letB c = true
  | [], j, h => by simp [run] at h
  | c :: t, j, h => by
    rw [run] at h
    by_cases hc : letB c = true
    · rw [if_pos hc, List.length_cons] at h
      cases j with
      | zero => exact ⟨c, rfl, hc⟩
      | succ j => exact run_lets t j (by omega)
    · rw [if_neg hc] at h
      simp at h
theorem run_stop : ∀ (l : List UInt8) (c : UInt8), l[(run l).length]? = some c → letB c = false
  | [], c, h => by simp [run] at h
  | d :: t, c, h => by
    rw [run] at h
    by_cases hc : letB d = true
    · rw [if_pos hc, List.length_cons, List.getElem?_cons_succ] at h
      exact run_stop t c h
    · rw [if_neg hc] at h
      simp at h
      subst h
      cases h2 : letB d
      · rfl
      · exact absurd h2 hc
theorem rest_drop : ∀ (l : List UInt8), rest l = l.drop (run l).length
  | [] => rfl
  | c :: t => by
    rw [run, rest]
    by_cases hc : letB c = true
    · rw [if_pos hc, if_pos hc, List.length_cons, List.drop_succ_cons, rest_drop t]
    · rw [if_neg hc, if_neg hc]; rfl
theorem low_small {c : UInt8} (h : letB c = true) : lowB c = smallB c := by
  rw [letB_nat] at h
  have h2 := of_decide_eq_true h
  unfold lowB smallB
  by_cases h1 : 65 ≤ c.toNat ∧ c.toNat ≤ 90
  · rw [if_pos h1, if_neg (by omega), if_pos h1]
  · rw [if_neg h1, if_pos (by omega)]
theorem run_low : ∀ (l : List UInt8), run l = (l.take (run l).length).map lowB
  | [] => rfl
  | c :: t => by
    rw [run]
    by_cases hc : letB c = true
    · rw [if_pos hc, List.length_cons, List.take_succ_cons, List.map_cons, low_small hc, ← run_low t]
    · rw [if_neg hc]; rfl
theorem run_le (l : List UInt8) : (run l).length ≤ l.length := by have := run_rest_length l; omega
theorem drop_at {s : ByteArray} {k : Nat} (h : k < s.size) : s.data.toList.drop k = s[k] :: s.data.toList.drop (k + 1) := by
  have h1 : k < s.data.toList.length := by rw [← Lib.size_eq]; exact h
  rw [List.drop_eq_getElem_cons h1, byte_at' s k h h1]
theorem extract_list (s : ByteArray) (a b : Nat) : (s.extract a b).data.toList = (s.data.toList.drop a).take (b - a) := by
  rw [← Lib.extract_toList, ByteArray.toList_eq]
theorem extract_size {s : ByteArray} {a b : Nat} (h : b ≤ s.size) : (s.extract a b).size = b - a := by
  rw [Lib.size_eq, extract_list, List.length_take, List.length_drop, ← Lib.size_eq]
  omega

def runV (r : Run) : List Value := [.string (bs r.s), .bool r.ahead, .bool r.behind]
def runsL (R : List Run) : List Value := R.flatMap runV
theorem runsL_snoc (R : List Run) (r : Run) : runsL (R ++ [r]) = runsL R ++ runV r := by simp [runsL]
def RunsPost (s : ByteArray) (w : World) (e : Ending) (w' : World) : Prop :=
  ∃ v, e = .returned v ∧ w'.ownsRow w.heap.size 45 3 v (runs true s.data.toList).length (runsL (runs true s.data.toList)) ∧ Below w.heap.size w w'
theorem info_run : (Try.prog.info? 45).map (fun i => (i.zero, i.size, i.bytes)) = some (some (.agg #[.string ⟨#[]⟩, .bool false, .bool false]), 3, 24) := by kernel_rfl

set_option maxHeartbeats 400000 in
set_option maxRecDepth 100000 in
theorem sruns_any (w : World) (s : ByteArray) (hs : s.size ≤ 100000) : Calls Try.prog 21 #[.string s] w (RunsPost s w) := by
  obtain ⟨j0, hj0, hy0, hy1, hy2⟩ := info_parts info_run
  have hlen := Lib.size_eq s
  obtain ⟨l, hl⟩ : ∃ l, l = s.data.toList := ⟨_, rfl⟩
  have HL := Lib.hid hl
  rw [← hl] at hlen
  have HLEN := Lib.hid hlen
  unfold RunsPost
  rw [← hl]
  clear hl hlen
  go_enter Try.func21, Try.ntmps21
  go_wp2_with fail
  go_loopw [3, 4] (fun u a wr => ∃ (k q : Nat) (R : List Run), k ≤ s.size ∧ q ≤ k ∧ a = .int .i64 k ∧ Hid (R.length = q) ∧ wr.ownsRow w.heap.size 45 3 u q (runsL R) ∧ Hid (R ++ runs (decide (k = 0)) (l.drop k) = runs true l) ∧ Below w.heap.size w wr) (fun _ a _ => s.size - (intOf a).toNat)
  case atStart => exact ⟨0, 0, [], by omega, by omega, rfl, rfl, World.ownsRow_nil _ _ _ _, by show _ = _; simp, Below.refl _ _⟩
  case round =>
    obtain ⟨k, q, R, hk, hqk, rfl, hq, hown, hR, hb⟩ := hrel
    have hbz := hb.size
    by_cases hlt : k < s.size
    · have hd := drop_at hlt
      rw [← HL.out] at hd
      have hr := hR.out
      rw [hd] at hr
      have hu := UInt8.toNat_lt s[k]
      have hlb := letB_nat s[k]
      have D := fun wx => sletter_any s[k].toNat hu wx
      rw [← hlb] at D
      have x0 : (0 : Int) ≤ (k : Int) := by omega
      have x1 : (k : Int) < (s.size : Int) := by omega
      cases hc : letB s[k]
      · rw [hc] at D
        rw [runs, if_neg (by simp [hc])] at hr
        have D := Lib.hid D
        have HR := Lib.hid hr
        have HB := Lib.hid hb
        have HO := Lib.hid hown
        clear hd hr hlb hu hc hR hb hown
        go_wp2_with fail
        refine (D.out _).mono ?_
        rintro e w1 ⟨rfl, rfl⟩
        go_wp2_with fail
        go_roundw
        case measure => go_light; simp [intOf]; omega
        case rel => go_light; exact ⟨k + 1, q, R, by omega, by omega, by go_num, hq.out, HO.out, by rw [decide_eq_false (by omega)]; exact HR.out, HB.out⟩
      · rw [hc] at D
        rw [runs, if_pos hc, ← hd] at hr
        have D := Lib.hid D
        obtain ⟨J, hJ⟩ : ∃ J, J = (run (l.drop k)).length := ⟨_, rfl⟩
        have hJ1 : 1 ≤ J := by rw [hJ, hd, run, if_pos hc]; simp
        have hJs : k + J ≤ s.size := by
          have := run_le (l.drop k)
          rw [List.length_drop, ← HLEN.out] at this
          omega
        have hlets := run_lets (l.drop k)
        have hstop := run_stop (l.drop k)
        rw [← hJ] at hlets hstop
        have hrd := rest_drop (l.drop k)
        rw [← hJ, List.drop_drop] at hrd
        have hrl := run_low (l.drop k)
        rw [← hJ] at hrl
        rw [hrd] at hr
        have HLETS := Lib.hid hlets
        have HSTOP := Lib.hid hstop
        have HRL := Lib.hid hrl
        have HR := Lib.hid hr
        have HB := Lib.hid hb
        have HO := Lib.hid hown
        clear hd hr hlb hu hc hR hb hown hJ hlets hstop hrd hrl
        go_wp2_with fail
        refine (D.out _).mono ?_
        rintro e w1 ⟨rfl, rfl⟩
        clear D
        go_wp2_with fail
        go_loopw [5] (fun i wx => ∃ m : Nat, k ≤ m ∧ m ≤ k + J ∧ i = .int .i64 m ∧ wx = wr) (fun i _ => k + J - (intOf i).toNat)
        case atStart => exact ⟨k, by omega, by omega, rfl, rfl⟩
        case round =>
          obtain ⟨m, hm1, hm2, rfl, rfl⟩ := hrel
          by_cases hm : m < k + J
          · have hms : m < s.size := by omega
            obtain ⟨c, hc1, hc2⟩ := HLETS.out (m - k) (by omega)
            rw [List.getElem?_drop, show k + (m - k) = m by omega, HL.out, byte_at s m hms] at hc1
            injection hc1 with hc1
            rw [← hc1] at hc2
            have D := fun wx => sletter_any s[m].toNat (UInt8.toNat_lt _) wx
            rw [← letB_nat, hc2] at D
            have D := Lib.hid D
            have y0 : (0 : Int) ≤ (m : Int) := by omega
            have y1 : (m : Int) < (s.size : Int) := by omega
            clear hc1 hc2
            go_wp2_with fail
            refine (D.out _).mono ?_
            rintro e w1 ⟨rfl, rfl⟩
            clear D
            go_wp2_with fail
            go_roundw
            case measure => go_light; simp [intOf]; omega
            case rel => go_light; exact ⟨m + 1, by omega, by omega, by go_num, by first | rfl | trivial⟩
          · have hmJ : m = k + J := by omega
            have D9 := fun wx => ssmall_any wx (s.extract k m) (by rw [extract_size (by omega)]; omega)
            rw [extract_list, show m - k = J by omega, ← HL.out, ← HRL.out] at D9
            have hr := HR.out
            rw [← hmJ] at hr
            have HR2 := Lib.hid hr
            obtain ⟨rn, hrn⟩ : ∃ rn, rn = run (l.drop k) := ⟨_, rfl⟩
            rw [← hrn] at D9 hr
            obtain ⟨a, ha⟩ : ∃ a, a = decide (k = 0) := ⟨_, rfl⟩
            have e1 : ((k : Int) == 0) = a := by rw [ha, Bool.eq_iff_iff]; simp
            rw [← ha] at hr
            obtain ⟨va, vc, rfl⟩ := own_shape HO.out
            have D9 := Lib.hid D9
            have y2 : k ≤ m := by omega
            obtain ⟨bb, hbb⟩ : ∃ bb, bb = decide (m = s.size) := ⟨_, rfl⟩
            by_cases hms : m < s.size
            · have hc1 : (l.drop k)[J]? = some s[m] := by rw [List.getElem?_drop, ← hmJ, HL.out]; exact byte_at s m hms
              have D := fun wx => sletter_any s[m].toNat (UInt8.toNat_lt _) wx
              rw [← letB_nat, HSTOP.out _ hc1] at D
              have D := Lib.hid D
              have y0 : (0 : Int) ≤ (m : Int) := by omega
              have y1 : (m : Int) < (s.size : Int) := by omega
              have e2 : ((m : Int) == (s.size : Int)) = bb := by rw [hbb, decide_eq_false (by omega)]; simp; omega
              have e3 : (l.drop m == []) = bb := by rw [hbb, decide_eq_false (by omega), HL.out, drop_at hms]; rfl
              rw [e3] at hr
              have HR3 := Lib.hid hr
              have HM := Lib.hid hmJ
              clear hc1 e3 hr ha hrn hmJ hbb
              go_wp2_with fail
              refine (D.out _).mono ?_
              rintro e w1 ⟨rfl, rfl⟩
              clear D
              have ks := fun wx => run_slice_string (P := Try.prog) wx 9 s .i64 .i64 (k : Int) (m : Int) Try.underlying9 (by omega) (by omega) (by omega)
              simp only [Int.toNat_natCast] at ks
              go_wp2_with fail
              refine (D9.out _).mono ?_
              rintro e w1 ⟨rfl, hb1⟩
              have z1 := hb1.size
              have HO1 := Lib.hid (own_kept HO.out (fun x hx => hb1.block x (World.ownsRow.lt HO.out x hx).2))
              have HB1 : Hid (Below w.heap.size w w1) := HB.out.trans (hb1.mono hbz)
              have HBB := Lib.hid hb1
              clear D9 hb1
              go_wp2_with (at_builtin; refine wpList_app rfl (.tmp 30) (.tmp 43) 42 rfl w.heap.size 45 j0 _ 3 24 Try.underlying42 hj0 hy0 hy1 hy2 rfl (by decide) _ _ _ (by rfl) (HO1.out.alloc _) _ 1 1 [.string (bs rn), .bool _, .bool _] (by rfl) (Src.of_blk (Blk.made _ _ _) 1 1 3 rfl) (by intro u hu; simp at hu; rcases hu with rfl | rfl | rfl <;> rfl) (by unfold maxLen; omega) (by omega) (by simp; omega) ?_; intro v4 w4 hown4 hg4 hat4)
              go_roundw
              case measure => go_light; have := HM.out; simp [intOf]; omega
              case rel =>
                go_light
                refine ⟨m, q + 1, R ++ [⟨rn, a, bb⟩], by omega, by omega, rfl, ?_, ?_, ?_, (bel_alloc (by omega) HB1.out).grown hg4 (by simp; omega) (fun y hy => (World.ownsRow.lt HO1.out y hy).1)⟩
                · show (R ++ [_]).length = q + 1; rw [List.length_append, hq.out]; rfl
                · rw [runsL_snoc]; exact hown4
                · show _ = _; rw [decide_eq_false (by omega), List.append_assoc]; exact HR3.out
            · have hms2 : m = s.size := by omega
              have e2 : ((m : Int) == (s.size : Int)) = bb := by rw [hbb, decide_eq_true hms2]; simp; omega
              have e3 : (l.drop m == []) = bb := by rw [hbb, decide_eq_true hms2, List.drop_of_length_le (by rw [← HLEN.out]; omega)]; rfl
              have y1 : decide ((m : Int) < (s.size : Int)) = false := by simp; omega
              have y1' : decide (m < s.size) = false := by simp; omega
              rw [e3] at hr
              have HR3 := Lib.hid hr
              have HM := Lib.hid hmJ
              have HMS := Lib.hid hms2
              have y3 : m ≤ s.size := by omega
              clear e3 hr ha hrn hmJ hms2 hms hbb
              have ks := fun wx => run_slice_string (P := Try.prog) wx 9 s .i64 .i64 (k : Int) (m : Int) Try.underlying9 (by omega) (by omega) (by omega)
              simp only [Int.toNat_natCast] at ks
              go_wp2_with fail
              refine (D9.out _).mono ?_
              rintro e w1 ⟨rfl, hb1⟩
              have z1 := hb1.size
              have HO1 := Lib.hid (own_kept HO.out (fun x hx => hb1.block x (World.ownsRow.lt HO.out x hx).2))
              have HB1 : Hid (Below w.heap.size w w1) := HB.out.trans (hb1.mono hbz)
              have HBB := Lib.hid hb1
              clear D9 hb1
              go_wp2_with (at_builtin; refine wpList_app rfl (.tmp 30) (.tmp 43) 42 rfl w.heap.size 45 j0 _ 3 24 Try.underlying42 hj0 hy0 hy1 hy2 rfl (by decide) _ _ _ (by rfl) (HO1.out.alloc _) _ 1 1 [.string (bs rn), .bool _, .bool _] (by rfl) (Src.of_blk (Blk.made _ _ _) 1 1 3 rfl) (by intro u hu; simp at hu; rcases hu with rfl | rfl | rfl <;> rfl) (by unfold maxLen; omega) (by omega) (by simp; omega) ?_; intro v4 w4 hown4 hg4 hat4)
              go_roundw
              case measure => go_light; have := HM.out; simp [intOf]; omega
              case rel =>
                go_light
                refine ⟨m, q + 1, R ++ [⟨rn, a, bb⟩], by omega, by omega, rfl, ?_, ?_, ?_, (bel_alloc (by omega) HB1.out).grown hg4 (by simp; omega) (fun y hy => (World.ownsRow.lt HO1.out y hy).1)⟩
                · show (R ++ [_]).length = q + 1; rw [List.length_append, hq.out]; rfl
                · rw [runsL_snoc]; exact hown4
                · show _ = _; rw [decide_eq_false (by omega), List.append_assoc]; exact HR3.out
    · obtain rfl : k = s.size := by omega
      have hr := hR.out
      rw [List.drop_of_length_le (by rw [HLEN.out]; exact Nat.le_refl _), runs, List.append_nil] at hr
      obtain ⟨va, vc, rfl⟩ := own_shape hown
      have HB := Lib.hid hb
      have HO := Lib.hid hown
      have HR := Lib.hid hr
      clear hr hR hb hown
      go_wp2_with fail
      go_ret
      refine ⟨_, rfl, ?_, HB.out⟩
      rw [← HR.out, hq.out]
      exact HO.out
end Go.Proofs.Ytloakdiioaodaaa.Sift
