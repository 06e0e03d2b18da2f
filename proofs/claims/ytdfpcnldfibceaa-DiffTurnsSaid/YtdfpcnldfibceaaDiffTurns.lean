/-
  The walk of the statement DiffTurns.
-/
import Derived.Test.YtdfpcnldfibceaaDiffBack
import Derived.Test.YtdfpcnldfibceaaDiffLeast
namespace Go.Proofs.Ytdfpcnldfibceaa.Diff
open Go.RowKit Go.Proofs.Ytdfpcnldfibceaa.Mem Go.Proofs.Ytdfpcnldfibceaa.Recs

theorem small_diff {a b : List Rec} (h1 : a.length ≤ 100) (h2 : b.length ≤ 100) : (diffL a b).length ≤ 200 ∧ ∀ e ∈ diffL a b, e.recs.length ≤ 200 := by
  have key : ∀ (a b : List Rec) (out : List Ed) (t : Nat), Small t out → Small (t + a.length + b.length) (diffGo a b out) := by
    intro a b
    induction a, b using lcs.induct with
    | case1 b =>
      induction b with
      | nil => intro out t h; rw [diffGo]; simpa using h
      | cons y ys ih => intro out t h; rw [diffGo]; exact (ih _ (t + 1) (h.add 3 [y] (by simp))).mono (by simp; omega)
    | case2 x xs =>
      suffices hs : ∀ (a : List Rec) (out : List Ed) (t : Nat), Small t out → Small (t + a.length + ([] : List Rec).length) (diffGo a [] out) from hs (x :: xs)
      intro a
      induction a with
      | nil => intro out t h; rw [diffGo]; simpa using h
      | cons y ys ih => intro out t h; rw [diffGo]; exact (ih _ (t + 1) (h.add 2 [] (by simp))).mono (by simp; omega)
    | case3 xs y ys ih => intro out t h; rw [diffGo, if_pos rfl]; exact (ih _ (t + 1) (h.add 1 [] (by simp))).mono (by simp; omega)
    | case4 x xs y ys hne ih1 ih2 =>
      intro out t h
      rw [diffGo, if_neg hne]
      split
      · exact (ih1 _ (t + 1) (h.add 2 [] (by simp))).mono (by simp; omega)
      · exact (ih2 _ (t + 1) (h.add 3 [y] (by simp))).mono (by simp; omega)
  have hs := key a b [] 0 (Small.nil 0)
  exact ⟨by have := hs.1; unfold diffL; omega, fun e he => by have := hs.2 e he; omega⟩
theorem back_recs : ∀ {es : List Ed} {a : List Rec} {b : Nat}, a.length ≤ b → ∀ e ∈ backL a es, (∀ x ∈ es, x.recs.length ≤ b) → e.recs.length ≤ b
  | [], _, _, _, e, he, _ => by simp [backL] at he
  | x :: es, a, b, ha, e, he, hr => by
    simp only [backL, List.mem_cons] at he
    rcases he with rfl | he
    · unfold backE
      split
      · simp only [List.length_take]; omega
      · split
        · simp
        · exact hr x (by simp)
    · exact back_recs (by rw [List.length_drop]; omega) e he (fun y hy => hr y (by simp [hy]))
theorem may_bad {es : List Ed} (h : allMay es) : badB es = false := by
  unfold badB
  rw [List.any_eq_false]
  intro e he
  simp [h e he]

set_option maxHeartbeats 2000000 in
set_option maxRecDepth 100000 in
theorem law_turns (w : World) (A B : Option Addr) (n m c d : Nat) (la lb : List Rec) (hn : la.length = n) (hm : lb.length = m) (hN : n ≤ 9223372036854775807) (hM : m ≤ 9223372036854775807) (hwf : Wf A n c) (hwf2 : Wf B m d)
    (ha : Row w w.heap.size A n 4 (recF la)) (hb : Row w w.heap.size B m 4 (recF lb)) :
    Calls Try.prog 11 #[.slice A n c, .slice B m d] w fun e w' => e = .returned (.bool true) ∧ Below w.heap.size w w' := by
  have HN := Lib.hid hn
  have HM := Lib.hid hm
  clear hn hm
  go_enter Try.func11, Try.ntmps11
  go_wp2_with fail
  refine (alive36 _).mono ?_
  rintro e w1 ⟨rfl, hb1⟩
  have z1 := hb1.size
  go_wp2_with fail
  refine (ref_great w1 A n c la 60 8000 (by omega) HN.out hN ((ha.below hb1).mono z1)).mono ?_
  rintro e w2 ⟨g1, rfl, hg1, hb2⟩
  have z2 := hb2.size
  have hbel2 : Below w.heap.size w w2 := bel_step hb2 z1 hb1
  cases g1
  · obtain ⟨hn60, _⟩ := hg1 rfl
    go_wp2_with fail
    refine (ref_great w2 B m d lb 60 8000 (by omega) HM.out hM ((hb.below hbel2).mono (by omega))).mono ?_
    rintro e w3 ⟨g2, rfl, hg2, hb3⟩
    have z3 := hb3.size
    have hbel3 : Below w.heap.size w w3 := bel_step hb3 (by omega) hbel2
    cases g2
    · obtain ⟨hm60, _⟩ := hg2 rfl
      obtain ⟨hmay, hrun⟩ := diffL_right la lb
      obtain ⟨hsl, hsr⟩ := small_diff (a := la) (b := lb) (by have := HN.out; omega) (by have := HM.out; omega)
      have hw0 : walkE la (diffL la lb) = 0 := walkE_of (may_bad hmay) hrun
      obtain ⟨hmayb, cc, mm, e1, e2, hback⟩ := back_right hmay hrun
      have hrunb : runE (backL la (diffL la lb)) (lb, []) = some ([], la) := by
        have := hback [] []
        simp only [List.append_nil, List.nil_append] at this e1 e2
        rw [← e2, ← e1] at this
        exact this
      have hwb : walkE lb (backL la (diffL la lb)) = 0 := walkE_of (may_bad hmayb) hrunb
      have hbl : (backL la (diffL la lb)).length ≤ 200 := by rw [backL_length]; exact hsl
      have hbr : ∀ e ∈ backL la (diffL la lb), e.recs.length ≤ 200 := fun e he => back_recs (b := 200) (by have := HN.out; omega) e he hsr
      have hself := diff_self la
      have HRUN := Lib.hid hrun
      have HRUNB := Lib.hid hrunb
      have HW0 := Lib.hid hw0
      have HWB := Lib.hid hwb
      have HSR := Lib.hid hsr
      have HBR := Lib.hid hbr
      have HSELF := Lib.hid hself
      clear hmay hrun hw0 hmayb e1 e2 hback hrunb hwb hsr hbr hself
      go_wp2_with fail
      refine (diff_any w3 A B n m c d la lb HN.out HM.out (by omega) (by omega) ((ha.below hbel3).mono (by omega)) ((hb.below hbel3).mono (by omega))).mono ?_
      rintro e w4 ⟨v4, rvs, rfl, hE, hb4⟩
      have z4 := hb4.size
      have hbel4 : Below w.heap.size w w4 := bel_step hb4 (by omega) hbel3
      obtain ⟨vb, vd, rfl⟩ := own_shape hE.own
      have hrow := hE.rowOf.2
      clear hE
      generalize hq4 : (diffL la lb).length = q4 at *
      have HQ4 := Lib.hid hq4
      clear hq4
      generalize diffL la lb = es at *
      go_wp2_with fail
      refine (apply_any w4 A vb n c q4 vd la es HQ4.out (by have := HN.out; omega) (by have := HQ4.out; omega) (fun e he => by have := HSR.out e he; omega) ⟨HN.out, (ha.below hbel4).mono (by omega), hwf⟩ hrow).mono ?_
      rintro e w5 ⟨v5, out5, rfl, hown5, hok5, _, hb5⟩
      have z5 := hb5.size
      have hbel5 : Below w.heap.size w w5 := bel_step hb5 (by omega) hbel4
      have hout5 : out5 = lb := by
        have h := hok5 HW0.out
        rw [HRUN.out] at h
        injection h with h
        injection h with _ h
        exact h.symm
      subst hout5
      rw [HW0.out]
      obtain ⟨v5a, v5c, rfl⟩ := own_shape hown5
      have hrow5 := hown5.lie.2.1
      rw [HM.out] at hrow5 ⊢
      clear hok5 hown5
      go_wp2_with fail
      refine (back_any w5 A vb n c q4 vd la es HQ4.out (by have := HN.out; omega) (by have := HQ4.out; omega) (fun e he => by have := HSR.out e he; omega) HW0.out ⟨HN.out, (ha.below hbel5).mono (by omega), hwf⟩ ((hrow.below hb5).mono z5)).mono ?_
      rintro e w6 ⟨pA, pn, pc, rfl, hpl, hprow, hb6⟩
      have z6 := hb6.size
      have hbel6 : Below w.heap.size w w6 := bel_step hb6 (by omega) hbel5
      have HPL := Lib.hid hpl
      clear hpl
      generalize backL la es = bes at *
      go_wp2_with fail
      refine (apply_any w6 B pA m d pn pc out5 bes HPL.out (by have := HM.out; omega) (by omega) (fun e he => by have := HBR.out e he; omega) ⟨HM.out, (hb.below hbel6).mono (by omega), hwf2⟩ hprow).mono ?_
      rintro e w7 ⟨v7, out7, rfl, hown7, hok7, _, hb7⟩
      have z7 := hb7.size
      have hbel7 : Below w.heap.size w w7 := bel_step hb7 (by omega) hbel6
      have hout7 : out7 = la := by
        have h := hok7 HWB.out
        rw [HRUNB.out] at h
        injection h with h
        injection h with _ h
        exact h.symm
      subst hout7
      rw [HWB.out]
      obtain ⟨v7a, v7c, rfl⟩ := own_shape hown7
      have hrow7 := hown7.lie.2.1
      rw [HN.out] at hrow7 ⊢
      clear hok7 hown7
      go_wp2_with fail
      refine (diff_any w7 A A n n c c out7 out7 HN.out HN.out (by omega) (by omega) ((ha.below hbel7).mono (by omega)) ((ha.below hbel7).mono (by omega))).mono ?_
      rintro e w8 ⟨v8, rvs8, rfl, hE8, hb8⟩
      have z8 := hb8.size
      have hbel8 : Below w.heap.size w w8 := bel_step hb8 (by omega) hbel7
      obtain ⟨v8a, v8c, rfl⟩ := own_shape hE8.own
      have hrow8 := hE8.rowOf.2
      clear hE8
      go_wp2_with fail
      refine (cost_any w8 v8a _ v8c (diffL out7 out7) rfl (good_diff _ _) (mild_diff (by have := HN.out; omega) (by have := HN.out; omega)) hrow8).mono ?_
      rintro e w9 ⟨rfl, hb9⟩
      have z9 := hb9.size
      have hbel9 : Below w.heap.size w w9 := bel_step hb9 (by omega) hbel8
      rw [HSELF.out]
      have r5 : Row w9 w9.heap.size v5a m 4 (recF out5) := ((((((hrow5.below hb6).mono z6).below hb7).mono z7).below hb8).mono z8 |>.below hb9).mono z9
      have r7 : Row w9 w9.heap.size v7a n 4 (recF out7) := ((((hrow7.below hb8).mono z8).below hb9).mono z9)
      have rA : Row w9 w9.heap.size A n 4 (recF out7) := (ha.below hbel9).mono hbel9.size
      have rB : Row w9 w9.heap.size B m 4 (recF out5) := (hb.below hbel9).mono hbel9.size
      go_wp2_with fail
      refine (ref_same_true w9 v5a B m v5c d out5 HM.out hM r5 rB).mono ?_
      rintro e w10 ⟨rfl, q1, rfl⟩
      go_wp2_with fail
      refine (ref_same_true (w9.drewN q1) v7a A n v7c c out7 HN.out hN (r7.drewN _) (rA.drewN _)).mono ?_
      rintro e w10 ⟨rfl, q2, rfl⟩
      go_wp2_with fail
      go_ret
      exact ⟨rfl, below_drewN hbel9 _⟩
    · go_wp2_with fail
      go_ret
      exact ⟨rfl, hbel3⟩
  · go_wp2_with fail
    go_ret
    exact ⟨rfl, hbel2⟩
end Go.Proofs.Ytdfpcnldfibceaa.Diff
