/-
  The walks of slices.IndexFunc, slices.ContainsFunc (on texts), sift.Has, sift.May.
-/
import Derived.Test.YtloakdiioaodaaaSiftFits
import Derived.Test.YtloakdiioaodaaaSiftWords
namespace Go.Proofs.Ytloakdiioaodaaa.Sift
open Go.RowKit Go.Proofs.Ytloakdiioaodaaa.Mem Go.Proofs.Ytloakdiioaodaaa.Own

def strF (ws : List (List UInt8)) (i _j : Nat) : Value := .string (bs (ws.getD i []))
theorem strF_row {w : World} {base c : Nat} {A : Option Addr} {ws : List (List UInt8)} (h : w.ownsRow base 9 1 (.slice A ws.length c) ws.length (strL ws)) : Row w w.heap.size A ws.length 1 (strF ws) :=
  Row.of_own h rfl fun i j hi hj => by
    obtain rfl : j = 0 := by omega
    simp [strL, strF, hi]
/-- From place k on: is there one that has p? -/
theorem any_drop {ws : List (List UInt8)} {p : List UInt8 → Bool} {k : Nat} (hk : k < ws.length) : (ws.drop k).any p = (p (ws.getD k []) || (ws.drop (k + 1)).any p) := by
  rw [List.drop_eq_getElem_cons hk, List.any_cons, List.getD_eq_getElem?_getD, List.getElem?_eq_getElem hk, Option.getD_some]

set_option maxRecDepth 100000 in
theorem sindex_any (w : World) (A : Option Addr) (n c : Nat) (ws : List (List UInt8)) (hl : ws.length = n) (hn : n ≤ 100000) (hw : ∀ x ∈ ws, x.length ≤ 100000) (hr : Row w w.heap.size A n 1 (strF ws))
    (K : Nat) (caps : Array Value) (p : List UInt8 → Bool) (hK : ∀ args wx, (callFunc K args).run Try.prog wx = .ok (.enter K args) wx)
    (hp : ∀ x : List UInt8, x.length ≤ 100000 → Calls Try.prog K (#[.string (bs x)] ++ caps) w fun e w' => e = .returned (.bool (p x)) ∧ w' = w) :
    Calls Try.prog 50 #[.slice A n c, .func (.func K) #[] caps] w fun e w' => ∃ z : Int, e = .returned (.int .i64 z) ∧ decide (0 ≤ z) = ws.any p ∧ w' = w := by
  have HP := Lib.hid hp
  have HR := Lib.hid hr
  have HL := Lib.hid hl
  have HW := Lib.hid hw
  clear hp hr hl hw
  go_enter Try.func50, Try.ntmps50
  go_wp2_with fail
  go_loopw [8] (fun i wx => ∃ k : Nat, k ≤ n ∧ i = .int .i64 k ∧ Hid ((ws.drop k).any p = ws.any p) ∧ wx = w) (fun i _ => n - (intOf i).toNat)
  case atStart => exact ⟨0, by omega, rfl, rfl, rfl⟩
  case round =>
    obtain ⟨k, hk, rfl, hA, rfl⟩ := hrel
    by_cases hlt : k < n
    · obtain ⟨ob, off, rfl, hbb, hcell⟩ := HR.out (by omega)
      have c0 := hcell k 0 hlt (by omega)
      simp only [strF, Nat.mul_one, Nat.add_zero] at c0
      have hkl : k < ws.length := by rw [HL.out]; exact hlt
      have D := HP.out (ws.getD k []) (HW.out _ (by rw [List.getD_eq_getElem?_getD, List.getElem?_eq_getElem hkl]; exact List.getElem_mem hkl))
      have ha := hA.out
      rw [any_drop hkl] at ha
      have x0 : (0 : Int) ≤ (k : Int) := by omega
      have x1 : (k : Int) < (n : Int) := by omega
      generalize ws.getD k [] = x at *
      cases hb : p x
      · rw [hb] at D ha
        rw [Bool.false_or] at ha
        have D := Lib.hid D
        have HA := Lib.hid ha
        clear hcell hkl hA ha hb
        go_wp2_with fail
        refine D.out.mono ?_
        rintro e w1 ⟨rfl, rfl⟩
        go_wp2_with fail
        go_roundw
        case measure => go_light; simp [intOf]; omega
        case rel => go_light; exact ⟨k + 1, by omega, by go_num, HA.out, by first | rfl | trivial⟩
      · rw [hb] at D ha
        rw [Bool.true_or] at ha
        have D := Lib.hid D
        have HA := Lib.hid ha
        clear hcell hkl hA ha hb
        go_wp2_with fail
        refine D.out.mono ?_
        rintro e w1 ⟨rfl, rfl⟩
        go_wp2_with fail
        go_ret
        exact ⟨k, rfl, by rw [← HA.out]; simp, rfl⟩
    · obtain rfl : k = n := by omega
      have ha := hA.out
      rw [List.drop_of_length_le (by rw [HL.out]; exact Nat.le_refl _)] at ha
      have HA := Lib.hid ha
      clear ha hA
      go_wp2_with fail
      go_ret
      exact ⟨-1, rfl, by rw [← HA.out]; rfl, rfl⟩
set_option maxRecDepth 100000 in
theorem scontains_any (w : World) (A : Option Addr) (n c : Nat) (ws : List (List UInt8)) (hl : ws.length = n) (hn : n ≤ 100000) (hw : ∀ x ∈ ws, x.length ≤ 100000) (hr : Row w w.heap.size A n 1 (strF ws)) (fv : Value) (p : List UInt8 → Bool) (hf : Tells w fv p) :
    Calls Try.prog 22 #[.slice A n c, fv] w fun e w' => e = .returned (.bool (ws.any p)) ∧ w' = w := by
  obtain ⟨K, caps, rfl, hK, hp⟩ := hf
  have D := Lib.hid (sindex_any w A n c ws hl hn hw hr K caps p hK hp)
  clear hl hw hr hp
  go_enter Try.func22, Try.ntmps22
  go_wp2_with fail
  refine D.out.mono ?_
  rintro e w1 ⟨z, rfl, hz, rfl⟩
  have HZ := Lib.hid hz
  clear hz D
  go_wp2_with fail
  go_ret
  exact ⟨ret_bool HZ.out, rfl⟩

theorem tell_le {row x : List UInt8} (h : x ∈ tell row) : x.length ≤ 24 := by
  unfold tell at h
  split at h
  · cases h
  · simp at h; subst h; simp; omega
theorem split_le : ∀ (l row : List UInt8), ∀ x ∈ split row l, x.length ≤ 24
  | [], row, x, h => tell_le h
  | c :: t, row, x, h => by
    rw [split] at h
    split at h
    · exact split_le t _ x h
    · rcases List.mem_append.1 h with h | h
      · exact tell_le h
      · exact split_le t _ x h
theorem split_count : ∀ (l row : List UInt8), (split row l).length ≤ row.length + l.length
  | [], row => by rw [split]; simpa using tell_length row
  | c :: t, row => by
    rw [split]
    split
    · have := split_count t (row ++ [smallB c]); simp at this ⊢; omega
    · have := split_count t []; have h2 := tell_length row; simp at this ⊢; omega
theorem runs_le (first : Bool) (l : List UInt8) : (∀ r ∈ runs first l, r.s.length ≤ l.length) ∧ (runs first l).length ≤ l.length := by
  induction first, l using runs.induct with
  | case1 first => rw [runs]; simp
  | case2 first c t h ih =>
    rw [runs, if_pos h]
    have h1 := run_rest_length (c :: t)
    have h2 : 1 ≤ (run (c :: t)).length := by rw [run, if_pos h]; simp
    refine ⟨fun r hr => ?_, by simp only [List.length_cons] at h1 ⊢; have := ih.2; omega⟩
    rcases List.mem_cons.1 hr with rfl | hr
    · show (run (c :: t)).length ≤ _; omega
    · have := ih.1 r hr; omega
  | case3 first c t h ih =>
    rw [runs, if_neg h]
    refine ⟨fun r hr => ?_, ?_⟩
    · have := ih.1 r hr; simp; omega
    · have := ih.2; simp; omega
def runF (R : List Run) (i j : Nat) : Value := (runV (R.getD i ⟨[], false, false⟩)).getD j .nilFunc
theorem runsL_get : ∀ (R : List Run) (i j : Nat), i < R.length → j < 3 → (runsL R)[i * 3 + j]? = some (runF R i j)
  | r :: R, 0, j, _, hj => by
    rw [show runsL (r :: R) = runV r ++ runsL R from rfl, Nat.zero_mul, Nat.zero_add, List.getElem?_append_left (by simpa [runV] using hj)]
    unfold runF
    rw [List.getD_cons_zero, List.getD_eq_getElem?_getD, List.getElem?_eq_getElem (by simpa [runV] using hj)]
    rfl
  | r :: R, i + 1, j, hi, hj => by
    rw [show runsL (r :: R) = runV r ++ runsL R from rfl, List.getElem?_append_right (by simp [runV]; omega), show (i + 1) * 3 + j - (runV r).length = i * 3 + j by simp [runV]; omega, runsL_get R i j (by simpa using hi) hj]
    rfl
theorem runF_row {w : World} {base c : Nat} {A : Option Addr} {R : List Run} (h : w.ownsRow base 45 3 (.slice A R.length c) R.length (runsL R)) : Row w w.heap.size A R.length 3 (runF R) :=
  Row.of_own h rfl fun i j hi hj => runsL_get R i j hi hj

set_option maxRecDepth 100000 in
theorem shas_any (w : World) (tm lv : Int) (src text needle : ByteArray) (hs : text.size ≤ 100000) (hm : MLen w) :
    Calls Try.prog 8 #[.agg #[.int .u64 tm, .int .u8 lv, .string src, .string text], .string needle] w fun e w' => e = .returned (.bool (Lib.contains text.data.toList needle.data.toList)) ∧ Below w.heap.size w w' := by
  obtain ⟨m, hm'⟩ := MLen.below (w' := w.alloc (.cells #[.int .u64 tm, .int .u8 lv, .string src, .string text] 24)) hm (bel_alloc0 (Below.refl _ _))
  have D := Try.strings_Contains text needle m _ (by omega) hm'
  have D := Lib.hid D
  clear hm' hm
  go_enter Try.func8, Try.ntmps8
  go_wp2_with fail
  refine D.out.mono ?_
  rintro e w1 ⟨rfl, rfl⟩
  go_wp2_with fail
  go_ret
  exact ⟨rfl, by (repeat (first | (with_reducible exact Below.refl _ _) | (with_reducible assumption) | (with_reducible refine Below.drew ?_) | (with_reducible refine below_drewN ?_ _) | ((with_reducible refine bel_set ?_ ?_); (focus (first | (simp; done) | (simp; omega) | omega | (simp at *; omega)))) | (with_reducible refine bel_alloc0 ?_) | (with_reducible refine bel_step0 (by assumption) ?_) | ((with_reducible refine bel_alloc ?_ ?_); (focus (first | (simp; done) | (simp; omega) | omega | (simp at *; omega)))) | ((with_reducible refine bel_step (by assumption) ?_ ?_); (focus (first | (simp; done) | (simp; omega) | omega | (simp at *; omega))))))⟩
theorem all_drop {R : List Run} {p : Run → Bool} {k : Nat} (hk : k < R.length) : (R.drop k).all p = (p (R.getD k ⟨[], false, false⟩) && (R.drop (k + 1)).all p) := by
  rw [List.drop_eq_getElem_cons hk, List.all_cons, List.getD_eq_getElem?_getD, List.getElem?_eq_getElem hk, Option.getD_some]
set_option maxHeartbeats 400000 in
set_option maxRecDepth 100000 in
theorem smay_any (w : World) (tm lv : Int) (src text needle : ByteArray) (hs : text.size ≤ 100000) (hs2 : needle.size ≤ 100000) (hm : MLen w) :
    Calls Try.prog 10 #[.agg #[.int .u64 tm, .int .u8 lv, .string src, .string text], .string needle] w fun e w' => e = .returned (.bool (mayB text.data.toList needle.data.toList)) ∧ Below w.heap.size w w' := by
  have D1 := Lib.hid (fun wx => swords_any wx text hs)
  have D2 := Lib.hid (fun wx => sruns_any wx needle hs2)
  unfold WordsPost at D1
  unfold RunsPost at D2
  unfold mayB
  have hwc := split_count text.data.toList []
  have hwl : ∀ x ∈ words text.data.toList, x.length ≤ 100000 := fun x hx => by have := split_le _ _ x hx; omega
  have hrl := runs_le true needle.data.toList
  have e1 : text.data.toList.length = text.size := (Lib.size_eq text).symm
  have e2 : needle.data.toList.length = needle.size := (Lib.size_eq needle).symm
  rw [e1, List.length_nil] at hwc
  rw [e2] at hrl
  change (words text.data.toList).length ≤ _ at hwc
  clear e1 e2
  generalize words text.data.toList = ws at *
  generalize runs true needle.data.toList = R at *
  generalize hn : ws.length = n at *
  generalize hq : R.length = q at *
  have HN := Lib.hid hn
  have HQ := Lib.hid hq
  have HM := Lib.hid hm
  have HWL := Lib.hid hwl
  have HRL := Lib.hid hrl.1
  have hq2 := hrl.2
  clear hn hq hm hwl hrl
  go_enter Try.func10, Try.ntmps10
  go_wp2_with fail
  refine (D1.out _).mono ?_
  rintro e w1 ⟨v1, rfl, hown1, hb1⟩
  obtain ⟨A1, c1, rfl⟩ := own_shape hown1
  have HB1 : Hid (Below w.heap.size w w1) := (bel_alloc0 (Below.refl _ _)).trans (hb1.mono (by simp))
  have HO1 := Lib.hid hown1
  clear hown1 hb1 D1
  go_wp2_with fail
  refine (D2.out _).mono ?_
  rintro e w2 ⟨v2, rfl, hown2, hb2⟩
  obtain ⟨A2, c2, rfl⟩ := own_shape hown2
  have HB2 : Hid (Below w.heap.size w w2) := HB1.out.trans (hb2.mono HB1.out.size)
  have hrow1 : Row w2 w2.heap.size A1 n 1 (strF ws) := by
    have h := HO1.out
    rw [← HN.out] at h ⊢
    exact (strF_row h).below hb2 |>.mono hb2.size
  have hrow2 : Row w2 w2.heap.size A2 q 3 (runF R) := by
    rw [← HQ.out] at hown2 ⊢
    exact runF_row hown2
  have HR1 := Lib.hid hrow1
  have HR2 := Lib.hid hrow2
  clear hown2 hb2 D2 hrow1 hrow2 HO1 HB1
  go_wp2_with fail
  go_loopw [14] (fun i wr => ∃ k : Nat, k ≤ q ∧ i = .int .i64 k ∧ Hid ((R.drop k).all (fun r => ws.any (fitsB r)) = R.all (fun r => ws.any (fitsB r))) ∧ Hid (Below w2.heap.size w2 wr)) (fun i _ => q - (intOf i).toNat)
  case atStart => exact ⟨0, by omega, rfl, rfl, Below.refl _ _⟩
  case round =>
    obtain ⟨k, hk, rfl, hA, HB⟩ := hrel
    have hz := HB.out.size
    by_cases hlt : k < q
    · obtain ⟨ob, off, rfl, hbb, hcell⟩ := HR2.out (by omega)
      have hkl : k < R.length := by rw [HQ.out]; exact hlt
      have e0 := (HB.out.cell (p := ⟨ob, _, none⟩) hbb).trans (hcell k 0 hlt (by omega))
      have e1 := (HB.out.cell (p := ⟨ob, _, none⟩) hbb).trans (hcell k 1 hlt (by omega))
      have e2 := (HB.out.cell (p := ⟨ob, _, none⟩) hbb).trans (hcell k 2 hlt (by omega))
      simp only [runF, runV, List.getD_cons_zero, List.getD_cons_succ, Nat.add_zero, ← Nat.add_assoc] at e0 e1 e2
      have hrs := HRL.out (R.getD k ⟨[], false, false⟩) (by rw [List.getD_eq_getElem?_getD, List.getElem?_eq_getElem hkl]; exact List.getElem_mem hkl)
      have ha := hA.out
      rw [all_drop hkl] at ha
      have x0 : (0 : Int) ≤ (k : Int) := by omega
      have x1 : (k : Int) < (q : Int) := by omega
      generalize R.getD k ⟨[], false, false⟩ = r at *
      have D1 := sfits_any (wr.alloc (.cells #[.string (bs r.s), .bool r.ahead, .bool r.behind] 45)) r (by omega) ((HM.out.below HB2.out).below (HB.out.trans ((bel_alloc0 (Below.refl _ _)).mono hz)))
      unfold FitsPost at D1
      have D1 := Lib.hid D1
      have HA := Lib.hid ha
      clear hcell hkl hA ha
      go_wp2_with fail
      refine D1.out.mono ?_
      rintro e w4 ⟨fv, rfl, hT, hb4⟩
      have HB4 : Hid (Below w2.heap.size w2 w4) := (bel_alloc (by omega) HB.out).trans (hb4.mono (by simp; omega))
      have D4 := scontains_any w4 A1 n c1 ws HN.out (by omega) HWL.out ((HR1.out.below HB4.out).mono HB4.out.size) fv (fitsB r) hT
      generalize ws.any (fitsB r) = b at *
      have D4 := Lib.hid D4
      clear hT hb4 D1 e0 e1 e2
      cases b
      · go_wp2_with fail
        refine D4.out.mono ?_
        rintro e w5 ⟨rfl, rfl⟩
        go_wp2_with fail
        go_ret
        exact ⟨ret_bool (by rw [← HA.out, Bool.false_and]), HB2.out.trans (HB4.out.mono HB2.out.size)⟩
      · go_wp2_with fail
        refine D4.out.mono ?_
        rintro e w5 ⟨rfl, rfl⟩
        go_wp2_with fail
        go_roundw
        case measure => go_light; simp [intOf]; omega
        case rel => go_light; exact ⟨k + 1, by omega, by go_num, by have h := HA.out; rw [Bool.true_and] at h; exact h, HB4.out⟩
    · obtain rfl : k = q := by omega
      have ha := hA.out
      rw [List.drop_of_length_le (by rw [HQ.out]; exact Nat.le_refl _)] at ha
      have HA := Lib.hid ha
      clear ha hA
      go_wp2_with fail
      go_ret
      exact ⟨by rw [← HA.out]; rfl, HB2.out.trans (HB.out.mono HB2.out.size)⟩
end Go.Proofs.Ytloakdiioaodaaa.Sift
