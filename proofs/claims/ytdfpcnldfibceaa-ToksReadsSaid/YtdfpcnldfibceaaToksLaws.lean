/-
  The walks of the statements ToksSplits and ToksJoins.
-/
import Derived.Test.YtdfpcnldfibceaaToksJoin
import Derived.KernelRfl
namespace Go.Proofs.Ytdfpcnldfibceaa.Toks
open Go.RowKit Go.Proofs.Ytdfpcnldfibceaa.Mem

theorem alive11 (w : World) : Calls Try.prog 34 #[] w fun e w' => e = .returned (.bool true) ∧ Below w.heap.size w w' := by
  have c := fun w => toks_split ⟨0, 10, 6⟩ w (by decide) (by decide)
  rw [show splitP ⟨0, 10, 6⟩ = ⟨260, 0, 2, 2⟩ from by kernel_rfl, show splitE ⟨0, 10, 6⟩ = 0 from by kernel_rfl] at c
  rw [Pc.val_mk, Tk.val_mk] at c
  have C := Lib.hid c
  clear c
  go_enter Try.func34, Try.ntmps34
  go_wp2_with (go_at_call 35; refine (C.out _).mono ?_; rintro e w' ⟨rfl, hb⟩; have hz := hb.size)
  go_ret
  refine ⟨rfl, ?_⟩
  (repeat (first | (with_reducible exact Below.refl _ _) | (with_reducible assumption) | (with_reducible refine Below.drew ?_) | (with_reducible refine below_drewN ?_ _) | ((with_reducible refine bel_set ?_ ?_); (focus (first | (simp; done) | (simp; omega) | omega | (simp at *; omega)))) | (with_reducible refine bel_alloc0 ?_) | (with_reducible refine bel_step0 (by assumption) ?_) | ((with_reducible refine bel_alloc ?_ ?_); (focus (first | (simp; done) | (simp; omega) | omega | (simp at *; omega)))) | ((with_reducible refine bel_step (by assumption) ?_ ?_); (focus (first | (simp; done) | (simp; omega) | omega | (simp at *; omega))))))

theorem split_sym (t : Tk) (h0 : 0 ≤ t.lit) (h1 : t.lit ≤ 255) : 0 ≤ (splitP t).sym ∧ (splitP t).sym ≤ 265 := by
  cases hm : mayB t.lit t.len t.dist
  · rw [(split_no hm).1]; simp
  · by_cases hl : t.len = 0
    · rw [(split_lit hm hl).1]; simp only; omega
    · obtain ⟨hs, _, a1, a2, a3, a4⟩ := split_match hm hl
      rw [hs]
      have := lg_nonneg (t.len - 2)
      have := lg_lt (t.len - 2) 8 (by omega) (by omega) (by rw [pw_8]; omega)
      simp only; omega
theorem join_lit_bd (p : Pc) : 0 ≤ (joinT p).lit ∧ (joinT p).lit ≤ 255 := by
  obtain ⟨a, b, c, e, ht, he, HJ⟩ := joinIs p
  rw [ht]
  have := HJ.out
  simp only
  omega

def PcOk (p : Pc) : Prop := (-9223372036854775808 ≤ p.sym ∧ p.sym ≤ 9223372036854775807) ∧ (-9223372036854775808 ≤ p.len ∧ p.len ≤ 9223372036854775807)

theorem law_splits (t : Tk) (p : Pc) (w : World) (h0 : 0 ≤ t.lit) (h1 : t.lit ≤ 255) (hp : PcOk p) :
    Calls Try.prog 5 #[t.val, p.val] w fun e w' => e = .returned (.bool true) ∧ Below w.heap.size w w' := by
  have c1 := fun w => toks_split t w h0 h1
  have c2 := fun w => ref_split t w h0 h1
  have c3 := fun w => toks_join p w hp.1.1 hp.1.2
  have c4 := fun w => ref_join p w hp.1.1 hp.1.2 hp.2.1 hp.2.2
  generalize splitP t = sp at c1 c2
  generalize joinT p = jt at c3 c4
  generalize splitE t = se at c1 c2
  generalize joinE p = je at c3 c4
  clear hp h0 h1
  obtain ⟨s1, s2, s3, s4⟩ := sp
  obtain ⟨u1, u2, u3⟩ := jt
  obtain ⟨t1, t2, t3⟩ := t
  obtain ⟨p1, p2, p3, p4⟩ := p
  simp only [Pc.val_mk, Tk.val_mk] at *
  have C1 := Lib.hid c1
  have C2 := Lib.hid c2
  have C3 := Lib.hid c3
  have C4 := Lib.hid c4
  clear c1 c2 c3 c4
  go_enter Try.func5, Try.ntmps5
  go_wp2_with fail
  refine (alive11 _).mono ?_
  rintro e w1 ⟨rfl, hb1⟩
  have z1 := hb1.size; (try simp at z1)
  have k1 : ∀ o, w1.cell? ⟨w.heap.size, o, none⟩ = _ := fun o => hb1.cell (p := ⟨_, o, none⟩) (by first | (simp; done) | (simp; omega) | omega); have k1l : w.heap.size < w1.heap.size := Nat.lt_of_lt_of_le (by first | (simp; done) | (simp; omega) | omega) hb1.size
  have k2 : ∀ o, w1.cell? ⟨w.heap.size + 1, o, none⟩ = _ := fun o => hb1.cell (p := ⟨_, o, none⟩) (by first | (simp; done) | (simp; omega) | omega); have k2l : w.heap.size + 1 < w1.heap.size := Nat.lt_of_lt_of_le (by first | (simp; done) | (simp; omega) | omega) hb1.size
  go_wp2_with fail
  refine (C1.out _).mono ?_
  rintro e w2 ⟨rfl, hb2⟩
  have z2 := hb2.size; (try simp at z2)
  have k3 : ∀ o, w2.cell? ⟨w.heap.size, o, none⟩ = _ := fun o => hb2.cell (p := ⟨_, o, none⟩) (by first | (simp; done) | (simp; omega) | omega); have k3l : w.heap.size < w2.heap.size := Nat.lt_of_lt_of_le (by first | (simp; done) | (simp; omega) | omega) hb2.size
  have k4 : ∀ o, w2.cell? ⟨w.heap.size + 1, o, none⟩ = _ := fun o => hb2.cell (p := ⟨_, o, none⟩) (by first | (simp; done) | (simp; omega) | omega); have k4l : w.heap.size + 1 < w2.heap.size := Nat.lt_of_lt_of_le (by first | (simp; done) | (simp; omega) | omega) hb2.size
  go_wp2_with fail
  refine (C2.out _).mono ?_
  rintro e w3 ⟨rfl, hb3⟩
  have z3 := hb3.size; (try simp at z3)
  have k5 : ∀ o, w3.cell? ⟨w2.heap.size, o, none⟩ = _ := fun o => hb3.cell (p := ⟨_, o, none⟩) (by first | (simp; done) | (simp; omega) | omega); have k5l : w2.heap.size < w3.heap.size := Nat.lt_of_lt_of_le (by first | (simp; done) | (simp; omega) | omega) hb3.size
  have k6 : ∀ o, w3.cell? ⟨w.heap.size + 1, o, none⟩ = _ := fun o => hb3.cell (p := ⟨_, o, none⟩) (by first | (simp; done) | (simp; omega) | omega); have k6l : w.heap.size + 1 < w3.heap.size := Nat.lt_of_lt_of_le (by first | (simp; done) | (simp; omega) | omega) hb3.size
  go_wp2_with fail
  refine (C3.out _).mono ?_
  rintro e w4 ⟨rfl, hb4⟩
  have z4 := hb4.size; (try simp at z4)
  have k7 : ∀ o, w4.cell? ⟨w2.heap.size, o, none⟩ = _ := fun o => hb4.cell (p := ⟨_, o, none⟩) (by first | (simp; done) | (simp; omega) | omega); have k7l : w2.heap.size < w4.heap.size := Nat.lt_of_lt_of_le (by first | (simp; done) | (simp; omega) | omega) hb4.size
  have k8 : ∀ o, w4.cell? ⟨w3.heap.size, o, none⟩ = _ := fun o => hb4.cell (p := ⟨_, o, none⟩) (by first | (simp; done) | (simp; omega) | omega); have k8l : w3.heap.size < w4.heap.size := Nat.lt_of_lt_of_le (by first | (simp; done) | (simp; omega) | omega) hb4.size
  have k9 : ∀ o, w4.cell? ⟨w.heap.size + 1, o, none⟩ = _ := fun o => hb4.cell (p := ⟨_, o, none⟩) (by first | (simp; done) | (simp; omega) | omega); have k9l : w.heap.size + 1 < w4.heap.size := Nat.lt_of_lt_of_le (by first | (simp; done) | (simp; omega) | omega) hb4.size
  go_wp2_with fail
  refine (C4.out _).mono ?_
  rintro e w5 ⟨rfl, hb5⟩
  have z5 := hb5.size; (try simp at z5)
  have k10 : ∀ o, w5.cell? ⟨w2.heap.size, o, none⟩ = _ := fun o => hb5.cell (p := ⟨_, o, none⟩) (by first | (simp; done) | (simp; omega) | omega); have k10l : w2.heap.size < w5.heap.size := Nat.lt_of_lt_of_le (by first | (simp; done) | (simp; omega) | omega) hb5.size
  have k11 : ∀ o, w5.cell? ⟨w3.heap.size, o, none⟩ = _ := fun o => hb5.cell (p := ⟨_, o, none⟩) (by first | (simp; done) | (simp; omega) | omega); have k11l : w3.heap.size < w5.heap.size := Nat.lt_of_lt_of_le (by first | (simp; done) | (simp; omega) | omega) hb5.size
  have k12 : ∀ o, w5.cell? ⟨w4.heap.size, o, none⟩ = _ := fun o => hb5.cell (p := ⟨_, o, none⟩) (by first | (simp; done) | (simp; omega) | omega); have k12l : w4.heap.size < w5.heap.size := Nat.lt_of_lt_of_le (by first | (simp; done) | (simp; omega) | omega) hb5.size
  go_wp2_with fail
  go_ret
  refine ⟨by simp, ?_⟩
  (repeat (first | (with_reducible exact Below.refl _ _) | (with_reducible assumption) | (with_reducible refine Below.drew ?_) | (with_reducible refine below_drewN ?_ _) | ((with_reducible refine bel_set ?_ ?_); (focus (first | (simp; done) | (simp; omega) | omega | (simp at *; omega)))) | (with_reducible refine bel_alloc0 ?_) | (with_reducible refine bel_step0 (by assumption) ?_) | ((with_reducible refine bel_alloc ?_ ?_); (focus (first | (simp; done) | (simp; omega) | omega | (simp at *; omega)))) | ((with_reducible refine bel_step (by assumption) ?_ ?_); (focus (first | (simp; done) | (simp; omega) | omega | (simp at *; omega))))))

theorem law_joins (t : Tk) (p : Pc) (w : World) (h0 : 0 ≤ t.lit) (h1 : t.lit ≤ 255) (hp : PcOk p) :
    Calls Try.prog 6 #[t.val, p.val] w fun e w' => e = .returned (.bool true) ∧ Below w.heap.size w w' := by
  have c1 := fun w => toks_split t w h0 h1
  have c2 : splitE t = 0 → ∀ w, Calls Try.prog 37 #[(splitP t).val] w fun e w' => e = .returned (.tuple #[t.val, .int .i64 0]) ∧ Below w.heap.size w w' := by
    intro he w
    obtain ⟨j1, j2⟩ := join_split t h0 (by omega) he
    obtain ⟨b1, b2⟩ := split_sym t h0 h1
    have := toks_join (splitP t) w (by omega) (by omega)
    rwa [j1, j2] at this
  have c3 := fun w => toks_join p w hp.1.1 hp.1.2
  have c4 : joinE p = 0 → ∀ w, Calls Try.prog 35 #[(joinT p).val] w fun e w' => e = .returned (.tuple #[p.val, .int .i64 0]) ∧ Below w.heap.size w w' := by
    intro he w
    obtain ⟨j1, j2⟩ := split_join p he
    obtain ⟨b1, b2⟩ := join_lit_bd p
    have := toks_split (joinT p) w b1 b2
    rwa [j1, j2] at this
  generalize splitP t = sp at c1 c2
  generalize joinT p = jt at c3 c4
  generalize splitE t = se at c1 c2
  generalize joinE p = je at c3 c4
  clear hp h0 h1
  obtain ⟨s1, s2, s3, s4⟩ := sp
  obtain ⟨u1, u2, u3⟩ := jt
  obtain ⟨t1, t2, t3⟩ := t
  obtain ⟨p1, p2, p3, p4⟩ := p
  simp only [Pc.val_mk, Tk.val_mk] at *
  have C1 := Lib.hid c1
  have C2 := Lib.hid c2
  have C3 := Lib.hid c3
  have C4 := Lib.hid c4
  clear c1 c2 c3 c4
  by_cases e1 : se = 0 <;> by_cases e2 : je = 0
  all_goals
    first | subst e1 | (have e1' : (se == 0) = false := by simpa using e1)
    first | subst e2 | (have e2' : (je == 0) = false := by simpa using e2)
    go_enter Try.func6, Try.ntmps6
    go_wp2_with fail
    refine (alive11 _).mono ?_
    rintro e w1 ⟨rfl, hb1⟩
    have z1 := hb1.size; (try simp at z1)
    have k1 : ∀ o, w1.cell? ⟨w.heap.size, o, none⟩ = _ := fun o => hb1.cell (p := ⟨_, o, none⟩) (by first | (simp; done) | (simp; omega) | omega); have k1l : w.heap.size < w1.heap.size := Nat.lt_of_lt_of_le (by first | (simp; done) | (simp; omega) | omega) hb1.size
    have k2 : ∀ o, w1.cell? ⟨w.heap.size + 1, o, none⟩ = _ := fun o => hb1.cell (p := ⟨_, o, none⟩) (by first | (simp; done) | (simp; omega) | omega); have k2l : w.heap.size + 1 < w1.heap.size := Nat.lt_of_lt_of_le (by first | (simp; done) | (simp; omega) | omega) hb1.size
    go_wp2_with fail
    refine (C1.out _).mono ?_
    rintro e w2 ⟨rfl, hb2⟩
    have z2 := hb2.size; (try simp at z2)
    have k3 : ∀ o, w2.cell? ⟨w.heap.size, o, none⟩ = _ := fun o => hb2.cell (p := ⟨_, o, none⟩) (by first | (simp; done) | (simp; omega) | omega); have k3l : w.heap.size < w2.heap.size := Nat.lt_of_lt_of_le (by first | (simp; done) | (simp; omega) | omega) hb2.size
    have k4 : ∀ o, w2.cell? ⟨w.heap.size + 1, o, none⟩ = _ := fun o => hb2.cell (p := ⟨_, o, none⟩) (by first | (simp; done) | (simp; omega) | omega); have k4l : w.heap.size + 1 < w2.heap.size := Nat.lt_of_lt_of_le (by first | (simp; done) | (simp; omega) | omega) hb2.size
    go_wp2_with fail
  · refine (C2.out trivial _).mono ?_
    rintro e w3 ⟨rfl, hb3⟩
    have z3 := hb3.size; (try simp at z3)
    have k5 : ∀ o, w3.cell? ⟨w.heap.size, o, none⟩ = _ := fun o => hb3.cell (p := ⟨_, o, none⟩) (by first | (simp; done) | (simp; omega) | omega); have k5l : w.heap.size < w3.heap.size := Nat.lt_of_lt_of_le (by first | (simp; done) | (simp; omega) | omega) hb3.size
    have k6 : ∀ o, w3.cell? ⟨w.heap.size + 1, o, none⟩ = _ := fun o => hb3.cell (p := ⟨_, o, none⟩) (by first | (simp; done) | (simp; omega) | omega); have k6l : w.heap.size + 1 < w3.heap.size := Nat.lt_of_lt_of_le (by first | (simp; done) | (simp; omega) | omega) hb3.size
    go_wp2_with fail
    refine (C3.out _).mono ?_
    rintro e w4 ⟨rfl, hb4⟩
    have z4 := hb4.size; (try simp at z4)
    have k9 : ∀ o, w4.cell? ⟨w.heap.size + 1, o, none⟩ = _ := fun o => hb4.cell (p := ⟨_, o, none⟩) (by first | (simp; done) | (simp; omega) | omega); have k9l : w.heap.size + 1 < w4.heap.size := Nat.lt_of_lt_of_le (by first | (simp; done) | (simp; omega) | omega) hb4.size
    go_wp2_with fail
    refine (C4.out trivial _).mono ?_
    rintro e w5 ⟨rfl, hb5⟩
    have z5 := hb5.size; (try simp at z5)
    have k12 : ∀ o, w5.cell? ⟨w.heap.size + 1, o, none⟩ = _ := fun o => hb5.cell (p := ⟨_, o, none⟩) (by first | (simp; done) | (simp; omega) | omega); have k12l : w.heap.size + 1 < w5.heap.size := Nat.lt_of_lt_of_le (by first | (simp; done) | (simp; omega) | omega) hb5.size
    go_wp2_with fail
    go_ret
    refine ⟨by simp, ?_⟩
    (repeat (first | (with_reducible exact Below.refl _ _) | (with_reducible assumption) | (with_reducible refine Below.drew ?_) | (with_reducible refine below_drewN ?_ _) | ((with_reducible refine bel_set ?_ ?_); (focus (first | (simp; done) | (simp; omega) | omega | (simp at *; omega)))) | (with_reducible refine bel_alloc0 ?_) | (with_reducible refine bel_step0 (by assumption) ?_) | ((with_reducible refine bel_alloc ?_ ?_); (focus (first | (simp; done) | (simp; omega) | omega | (simp at *; omega)))) | ((with_reducible refine bel_step (by assumption) ?_ ?_); (focus (first | (simp; done) | (simp; omega) | omega | (simp at *; omega))))))
  · refine (C2.out trivial _).mono ?_
    rintro e w3 ⟨rfl, hb3⟩
    have z3 := hb3.size; (try simp at z3)
    have k5 : ∀ o, w3.cell? ⟨w.heap.size, o, none⟩ = _ := fun o => hb3.cell (p := ⟨_, o, none⟩) (by first | (simp; done) | (simp; omega) | omega); have k5l : w.heap.size < w3.heap.size := Nat.lt_of_lt_of_le (by first | (simp; done) | (simp; omega) | omega) hb3.size
    have k6 : ∀ o, w3.cell? ⟨w.heap.size + 1, o, none⟩ = _ := fun o => hb3.cell (p := ⟨_, o, none⟩) (by first | (simp; done) | (simp; omega) | omega); have k6l : w.heap.size + 1 < w3.heap.size := Nat.lt_of_lt_of_le (by first | (simp; done) | (simp; omega) | omega) hb3.size
    go_wp2_with fail
    refine (C3.out _).mono ?_
    rintro e w4 ⟨rfl, hb4⟩
    have z4 := hb4.size; (try simp at z4)
    have k9 : ∀ o, w4.cell? ⟨w.heap.size + 1, o, none⟩ = _ := fun o => hb4.cell (p := ⟨_, o, none⟩) (by first | (simp; done) | (simp; omega) | omega); have k9l : w.heap.size + 1 < w4.heap.size := Nat.lt_of_lt_of_le (by first | (simp; done) | (simp; omega) | omega) hb4.size
    go_wp2_with fail
    go_ret
    refine ⟨by simp, ?_⟩
    (repeat (first | (with_reducible exact Below.refl _ _) | (with_reducible assumption) | (with_reducible refine Below.drew ?_) | (with_reducible refine below_drewN ?_ _) | ((with_reducible refine bel_set ?_ ?_); (focus (first | (simp; done) | (simp; omega) | omega | (simp at *; omega)))) | (with_reducible refine bel_alloc0 ?_) | (with_reducible refine bel_step0 (by assumption) ?_) | ((with_reducible refine bel_alloc ?_ ?_); (focus (first | (simp; done) | (simp; omega) | omega | (simp at *; omega)))) | ((with_reducible refine bel_step (by assumption) ?_ ?_); (focus (first | (simp; done) | (simp; omega) | omega | (simp at *; omega))))))
  · refine (C3.out _).mono ?_
    rintro e w4 ⟨rfl, hb4⟩
    have z4 := hb4.size; (try simp at z4)
    have k9 : ∀ o, w4.cell? ⟨w.heap.size + 1, o, none⟩ = _ := fun o => hb4.cell (p := ⟨_, o, none⟩) (by first | (simp; done) | (simp; omega) | omega); have k9l : w.heap.size + 1 < w4.heap.size := Nat.lt_of_lt_of_le (by first | (simp; done) | (simp; omega) | omega) hb4.size
    go_wp2_with fail
    refine (C4.out trivial _).mono ?_
    rintro e w5 ⟨rfl, hb5⟩
    have z5 := hb5.size; (try simp at z5)
    have k12 : ∀ o, w5.cell? ⟨w.heap.size + 1, o, none⟩ = _ := fun o => hb5.cell (p := ⟨_, o, none⟩) (by first | (simp; done) | (simp; omega) | omega); have k12l : w.heap.size + 1 < w5.heap.size := Nat.lt_of_lt_of_le (by first | (simp; done) | (simp; omega) | omega) hb5.size
    go_wp2_with fail
    go_ret
    refine ⟨by simp, ?_⟩
    (repeat (first | (with_reducible exact Below.refl _ _) | (with_reducible assumption) | (with_reducible refine Below.drew ?_) | (with_reducible refine below_drewN ?_ _) | ((with_reducible refine bel_set ?_ ?_); (focus (first | (simp; done) | (simp; omega) | omega | (simp at *; omega)))) | (with_reducible refine bel_alloc0 ?_) | (with_reducible refine bel_step0 (by assumption) ?_) | ((with_reducible refine bel_alloc ?_ ?_); (focus (first | (simp; done) | (simp; omega) | omega | (simp at *; omega)))) | ((with_reducible refine bel_step (by assumption) ?_ ?_); (focus (first | (simp; done) | (simp; omega) | omega | (simp at *; omega))))))
  · refine (C3.out _).mono ?_
    rintro e w4 ⟨rfl, hb4⟩
    have z4 := hb4.size; (try simp at z4)
    have k9 : ∀ o, w4.cell? ⟨w.heap.size + 1, o, none⟩ = _ := fun o => hb4.cell (p := ⟨_, o, none⟩) (by first | (simp; done) | (simp; omega) | omega); have k9l : w.heap.size + 1 < w4.heap.size := Nat.lt_of_lt_of_le (by first | (simp; done) | (simp; omega) | omega) hb4.size
    go_wp2_with fail
    go_ret
    refine ⟨by simp, ?_⟩
    (repeat (first | (with_reducible exact Below.refl _ _) | (with_reducible assumption) | (with_reducible refine Below.drew ?_) | (with_reducible refine below_drewN ?_ _) | ((with_reducible refine bel_set ?_ ?_); (focus (first | (simp; done) | (simp; omega) | omega | (simp at *; omega)))) | (with_reducible refine bel_alloc0 ?_) | (with_reducible refine bel_step0 (by assumption) ?_) | ((with_reducible refine bel_alloc ?_ ?_); (focus (first | (simp; done) | (simp; omega) | omega | (simp at *; omega)))) | ((with_reducible refine bel_step (by assumption) ?_ ?_); (focus (first | (simp; done) | (simp; omega) | omega | (simp at *; omega))))))
end Go.Proofs.Ytdfpcnldfibceaa.Toks
