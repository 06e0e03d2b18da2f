/-
  The walk of the statement DiffLeast.
-/
import Derived.Test.YtdfpcnldfibceaaDiffApply
import Derived.Test.YtdfpcnldfibceaaDiffFinds
namespace Go.Proofs.Ytdfpcnldfibceaa.Diff
open Go.RowKit Go.Proofs.Ytdfpcnldfibceaa.Mem Go.Proofs.Ytdfpcnldfibceaa.Recs

theorem run_n : ∀ {es : List Ed} {a o r o' : List Rec}, allMay es → runE es (a, o) = some (r, o') → ∀ e ∈ es, 0 ≤ e.n ∧ e.n ≤ a.length
  | [], _, _, _, _, _, _, e, he => by simp at he
  | x :: es, a, o, r, o', hm, h, e, he => by
    simp only [runE] at h
    cases hs : stepE (a, o) x with
    | none => rw [hs] at h; cases h
    | some s =>
      rw [hs] at h
      obtain ⟨a1, o1⟩ := s
      have hx : 0 ≤ x.n := by rcases mayE_cases (hm x (by simp)) with h | h | h <;> omega
      unfold stepE at hs
      split at hs
      · cases hs
      · rename_i hn
        simp only [Option.some.injEq, Prod.mk.injEq] at hs
        simp only at hn
        rcases List.mem_cons.1 he with rfl | he
        · exact ⟨hx, by omega⟩
        · have h1 := run_n (fun y hy => hm y (by simp [hy])) h e he
          have e1 : a1.length = a.length - x.n.toNat := by rw [← hs.1, List.length_drop]
          omega
theorem mild_diff {a b : List Rec} (h1 : a.length ≤ 1000) (h2 : b.length ≤ 1000) : Mild (diffL a b) := by
  obtain ⟨hm, hr⟩ := diffL_right a b
  have hn := run_n hm hr
  have key : ∀ (a b : List Rec) (out : List Ed) (t : Nat), Small t out → Small (t + a.length + b.length) (diffGo a b out) := by
    intro a b
    induction a, b using lcs.induct with
    | case1 b =>
      induction b with
      | nil => intro out t h; rw [diffGo]; simpa using h
      | cons y ys ih => intro out t h; rw [diffGo]; exact (ih _ (t + 1) (h.add 3 [y] (by simp))).mono (by simp; omega)
    | case2 x xs =>
      suffices hs : ∀ (a : List Rec) (out : List Ed) (t : Nat), Small t out → Small (t + a.length + ([] : List Rec).length) (diffGo a [] out) from hs (x :: xs)
      intro a
      induction a with
      | nil => intro out t h; rw [diffGo]; simpa using h
      | cons y ys ih => intro out t h; rw [diffGo]; exact (ih _ (t + 1) (h.add 2 [] (by simp))).mono (by simp; omega)
    | case3 xs y ys ih => intro out t h; rw [diffGo, if_pos rfl]; exact (ih _ (t + 1) (h.add 1 [] (by simp))).mono (by simp; omega)
    | case4 x xs y ys hne ih1 ih2 =>
      intro out t h
      rw [diffGo, if_neg hne]
      split
      · exact (ih1 _ (t + 1) (h.add 2 [] (by simp))).mono (by simp; omega)
      · exact (ih2 _ (t + 1) (h.add 3 [y] (by simp))).mono (by simp; omega)
  have hs := key a b [] 0 (Small.nil 0)
  exact ⟨by have := hs.1; unfold diffL; omega, fun e he => by have := hs.2 e he; have := hn e he; omega⟩
theorem good_diff (a b : List Rec) : badB (diffL a b) = false := by
  unfold badB
  rw [List.any_eq_false]
  intro e he
  have := (diffL_right a b).1 e he
  simp [this]

theorem OwnsRecs.lie {w : World} {base : Nat} {A : Option Addr} {n c : Nat} {l : List Rec} (h : OwnsRecs w base (.slice A n c) l) : l.length = n ∧ Row w w.heap.size A n 4 (recF l) ∧ Wf A n c := by
  obtain ⟨A', c', e, hr, hw⟩ := OwnsRecs.row h
  injection e with e1 e2 e3
  subst e1 e2 e3
  exact ⟨rfl, hr, hw⟩

set_option maxHeartbeats 1000000 in
theorem law_least (w : World) (A L : Option Addr) (n m c d : Nat) (la : List Rec) (es : List Ed) (hn : la.length = n) (hm : es.length = m) (hN : n ≤ 9223372036854775807) (hM : m ≤ 9223372036854775807) (hwf : Wf A n c)
    (ha : Row w w.heap.size A n 4 (recF la)) (hl : EdRow w w.heap.size L es) :
    Calls Try.prog 8 #[.slice A n c, .slice L m d] w fun e w' => e = .returned (.bool true) ∧ Below w.heap.size w w' := by
  have HN := Lib.hid hn
  have HM := Lib.hid hm
  clear hn hm
  go_enter Try.func8, Try.ntmps8
  go_wp2_with fail
  refine (alive36 _).mono ?_
  rintro e w1 ⟨rfl, hb1⟩
  have z1 := hb1.size
  go_wp2_with fail
  refine (ref_great w1 A n c la 40 8000 (by omega) HN.out hN ((ha.below hb1).mono z1)).mono ?_
  rintro e w2 ⟨g1, rfl, hg1, hb2⟩
  have z2 := hb2.size
  have hbel2 : Below w.heap.size w w2 := bel_step hb2 z1 hb1
  cases g1
  · obtain ⟨hn40, _⟩ := hg1 rfl
    go_wp2_with fail
    refine (great_eds w2 L m d es HM.out hM ((hl.below hbel2).mono (by omega))).mono ?_
    rintro e w3 ⟨g2, rfl, hg2, hb3⟩
    have z3 := hb3.size
    have hbel3 : Below w.heap.size w w3 := bel_step hb3 (by omega) hbel2
    cases g2
    · obtain ⟨hm40, hr40⟩ := hg2 rfl
      have HR40 := Lib.hid hr40
      clear hr40
      rw [HM.out] at hm40
      go_wp2_with fail
      refine (apply_any w3 A L n c m d la es HM.out (by have := HN.out; omega) (by have := HM.out; omega) (fun e he => by have := HR40.out e he; omega) ⟨HN.out, (ha.below hbel3).mono (by omega), hwf⟩ ((hl.below hbel3).mono (by omega))).mono ?_
      rintro e w4 ⟨v, out, rfl, hown, hok, hno, hb4⟩
      have z4 := hb4.size
      have hbel4 : Below w.heap.size w w4 := bel_step hb4 (by omega) hbel3
      obtain ⟨va, vc, rfl⟩ := own_shape hown
      obtain ⟨q, hq⟩ : ∃ q, q = out.length := ⟨_, rfl⟩
      have hlie := hown.lie
      rw [← hq] at hlie
      have HQ := Lib.hid hq
      obtain ⟨hl1, hrow4, _⟩ := hlie
      clear hl1
      rw [← hq]
      obtain ⟨x, hx⟩ : ∃ x, x = walkE la es := ⟨_, rfl⟩
      rw [← hx] at hok hno ⊢
      have HX := Lib.hid hx
      have HOK := Lib.hid hok
      clear hq hx hok hno hown
      by_cases h0 : x = 0
      · subst h0
        have hrun := HOK.out rfl
        obtain ⟨hgood, _⟩ := walkE_zero HX.out.symm
        have hmay := bad_may hgood
        have hmn := run_n hmay hrun
        have HRUN := Lib.hid hrun
        have hmild : Mild es := ⟨by have := HM.out; omega, fun e he => by have := hmn e he; have := HR40.out e he; have := HN.out; omega⟩
        by_cases h200 : 200 < q
        · go_wp2_with fail
          go_ret
          exact ⟨rfl, hbel4⟩
        · go_wp2_with fail
          refine (cost_any w4 L m d es HM.out hgood hmild ((hl.below hbel4).mono (by omega))).mono ?_
          rintro e w5 ⟨rfl, hb5⟩
          have z5 := hb5.size
          have hbel5 : Below w.heap.size w w5 := bel_step hb5 (by omega) hbel4
          go_wp2_with fail
          refine (diff_any w5 A va n q c vc la out HN.out HQ.out.symm (by omega) (by omega) ((ha.below hbel5).mono (by omega)) ((hrow4.below hb5).mono (by omega))).mono ?_
          rintro e w6 ⟨v6, rvs, rfl, hE, hb6⟩
          have z6 := hb6.size
          have hbel6 : Below w.heap.size w w6 := bel_step hb6 (by omega) hbel5
          obtain ⟨vb, vd, rfl⟩ := own_shape hE.own
          have hrow := hE.rowOf.2
          go_wp2_with fail
          refine (cost_any w6 vb _ vd (diffL la out) rfl (good_diff _ _) (mild_diff (by have := HN.out; omega) (by have := HQ.out; omega)) hrow).mono ?_
          rintro e w7 ⟨rfl, hb7⟩
          have hbel7 : Below w.heap.size w w7 := bel_step hb7 (by omega) hbel6
          have hle := diff_least hmay HRUN.out
          generalize costL (diffL la out) = c1 at *
          generalize costL es = c2 at *
          go_wp2_with fail
          go_ret
          refine ⟨ret_bool ?_, hbel7⟩
          simp
      · have hxb : (x != 0) = true := by simp [h0]
        go_wp2_with fail
        go_ret
        exact ⟨rfl, hbel4⟩
    · go_wp2_with fail
      go_ret
      exact ⟨rfl, hbel3⟩
  · go_wp2_with fail
    go_ret
    exact ⟨rfl, hbel2⟩
end Go.Proofs.Ytdfpcnldfibceaa.Diff
