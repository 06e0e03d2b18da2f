/-
  The walks of package toks' Join and of the reference's.
-/
import Derived.Test.YtmgjgkdbagbleaaGreatDoorZOneTurned18
import Derived.Deep.RegionWith
namespace Go.Proofs.YtmgjgkdbagbleaaGreatDoor.Toks
open Go.RowKit Go.Proofs.YtmgjgkdbagbleaaGreatDoor.Mem
theorem join_lit (sym : Int) (h0 : 0 ≤ sym) (h1 : sym < 256) : joinT ⟨sym, 0, 0, 0⟩ = ⟨sym, 0, 0⟩ ∧ joinE ⟨sym, 0, 0, 0⟩ = 0 := by
  have hl : litB ⟨sym, 0, 0, 0⟩ = true := by simp [litB]; omega
  unfold joinT joinE
  rw [if_pos hl, if_pos hl]
  exact ⟨rfl, rfl⟩
theorem join_match (p : Pc) (a1 : 257 ≤ p.sym) (a2 : p.sym < 265) (a3 : 0 ≤ p.dist) (a4 : p.dist < 12) (a5 : 0 ≤ p.len ∧ p.len < pw (p.sym - 257)) (a6 : 0 ≤ p.far ∧ p.far < pw p.dist) :
    joinT p = ⟨0, 2 + pw (p.sym - 257) + p.len, pw p.dist + p.far⟩ ∧ joinE p = 0 := by
  have hl : litB p = false := by simp [litB]; omega
  have hm : matchB p = true := by simp only [matchB, decide_eq_true_eq]; omega
  unfold joinT joinE
  simp [hl, hm]
theorem join_no (p : Pc) (h : ¬ (0 ≤ p.sym ∧ p.sym < 256 ∧ p.len = 0 ∧ p.dist = 0 ∧ p.far = 0))
    (h' : ¬ (257 ≤ p.sym ∧ p.sym < 265 ∧ 0 ≤ p.dist ∧ p.dist < 12 ∧ 0 ≤ p.len ∧ p.len < pw (p.sym - 257) ∧ 0 ≤ p.far ∧ p.far < pw p.dist)) : joinT p = ⟨0, 0, 0⟩ ∧ joinE p = 7 := by
  have hl : litB p = false := by unfold litB; simpa using h
  have hm : matchB p = false := by unfold matchB; simpa using h'
  unfold joinT joinE
  simp [hl, hm]
theorem joinIs (p : Pc) : ∃ a b c e, joinT p = ⟨a, b, c⟩ ∧ joinE p = e ∧
    Hid (((0 ≤ p.sym ∧ p.sym < 256 ∧ p.len = 0 ∧ p.dist = 0 ∧ p.far = 0) → a = p.sym ∧ b = 0 ∧ c = 0 ∧ e = 0) ∧
      ((257 ≤ p.sym ∧ p.sym < 265 ∧ 0 ≤ p.dist ∧ p.dist < 12 ∧ 0 ≤ p.len ∧ p.len < pw (p.sym - 257) ∧ 0 ≤ p.far ∧ p.far < pw p.dist) →
        a = 0 ∧ b = 2 + pw (p.sym - 257) + p.len ∧ c = pw p.dist + p.far ∧ e = 0) ∧
      (¬ (0 ≤ p.sym ∧ p.sym < 256 ∧ p.len = 0 ∧ p.dist = 0 ∧ p.far = 0) →
       ¬ (257 ≤ p.sym ∧ p.sym < 265 ∧ 0 ≤ p.dist ∧ p.dist < 12 ∧ 0 ≤ p.len ∧ p.len < pw (p.sym - 257) ∧ 0 ≤ p.far ∧ p.far < pw p.dist) →
        a = 0 ∧ b = 0 ∧ c = 0 ∧ e = 7)) := by
  refine ⟨(joinT p).lit, (joinT p).len, (joinT p).dist, joinE p, rfl, rfl, ?_⟩
  refine ⟨fun h => ?_, fun h => ?_, fun h h' => ?_⟩
  · obtain ⟨sym, len, dist, far⟩ := p
    obtain ⟨h1, h2, rfl, rfl, rfl⟩ := h
    obtain ⟨e1, e2⟩ := join_lit sym h1 h2
    rw [e1, e2]
    exact ⟨rfl, rfl, rfl, rfl⟩
  · obtain ⟨e1, e2⟩ := join_match p h.1 h.2.1 h.2.2.1 h.2.2.2.1 ⟨h.2.2.2.2.1, h.2.2.2.2.2.1⟩ ⟨h.2.2.2.2.2.2.1, h.2.2.2.2.2.2.2⟩
    rw [e1, e2]
    exact ⟨rfl, rfl, rfl, rfl⟩
  · obtain ⟨e1, e2⟩ := join_no p h h'
    rw [e1, e2]
    exact ⟨rfl, rfl, rfl, rfl⟩
set_option maxHeartbeats 400000 in
theorem toks_join (p : Pc) (w : World) (h0 : -9223372036854775808 ≤ p.sym) (h1 : p.sym ≤ 9223372036854775807) :
    Calls Tryz.prog 340 #[p.val] w fun e w' => e = .returned (.tuple #[(joinT p).val, .int .i64 (joinE p)]) ∧ Below w.heap.size w w' := by
  obtain ⟨a, b, c, e, ht, he, HJ⟩ := joinIs p
  rw [ht, he, Tk.val_mk]
  clear ht he
  obtain ⟨sym, len, dist, far⟩ := p
  simp only at h0 h1 HJ
  rw [Pc.val_mk]
  go_enter Tryz.func340, Tryz.ntmps340
  go_wp2_with (go_at_call 343; refine (toks_fits _ _ _ (by omega) (by omega)).mono ?_; rintro e w' ⟨rfl, rfl⟩)
  all_goals first
    | (refine bodyPost_ret (v := .tuple #[.agg #[.int .u8 a, .int .i64 b, .int .i64 c], .int .i64 e]) ?_ rfl ⟨rfl, ?_⟩
       · have HK := HJ.out
         go_light
         simp [results, Tryz.results340, go_sem]
         omega
       · (repeat (first | (with_reducible exact Below.refl _ _) | (with_reducible assumption) | (with_reducible refine Below.drew ?_) | (with_reducible refine below_drewN ?_ _) | ((with_reducible refine bel_set ?_ ?_); (focus (first | (simp; done) | (simp; omega) | omega | (simp at *; omega)))) | (with_reducible refine bel_alloc0 ?_) | (with_reducible refine bel_step0 (by assumption) ?_) | ((with_reducible refine bel_alloc ?_ ?_); (focus (first | (simp; done) | (simp; omega) | omega | (simp at *; omega)))) | ((with_reducible refine bel_step (by assumption) ?_ ?_); (focus (first | (simp; done) | (simp; omega) | omega | (simp at *; omega)))))))
    | skip
  have f1 : 0 ≤ len ∧ len < pw (sym - 257) := by assumption
  have f2 : 0 ≤ far ∧ far < pw dist := by assumption
  go_region
  all_goals go_wp2
  all_goals
    refine bodyPost_ret (v := .tuple #[.agg #[.int .u8 a, .int .i64 b, .int .i64 c], .int .i64 e]) ?_ rfl ⟨rfl, ?_⟩
    · have HK := HJ.out
      go_light
      obtain ⟨p1, p1'⟩ := pw_wrap (sym - 257) (by omega)
      obtain ⟨p2, p2'⟩ := pw_wrap dist (by omega)
      simp only [p1, p2]
      rw [IntWalk.wrap64_in (2 + pw (sym - 257)) ⟨by omega, by omega⟩, IntWalk.wrap64_in (2 + pw (sym - 257) + len) ⟨by omega, by omega⟩, IntWalk.wrap64_in (pw dist + far) ⟨by omega, by omega⟩]
      simp [results, Tryz.results340, go_sem]
      omega
    · (repeat (first | (with_reducible exact Below.refl _ _) | (with_reducible assumption) | (with_reducible refine Below.drew ?_) | (with_reducible refine below_drewN ?_ _) | ((with_reducible refine bel_set ?_ ?_); (focus (first | (simp; done) | (simp; omega) | omega | (simp at *; omega)))) | (with_reducible refine bel_alloc0 ?_) | (with_reducible refine bel_step0 (by assumption) ?_) | ((with_reducible refine bel_alloc ?_ ?_); (focus (first | (simp; done) | (simp; omega) | omega | (simp at *; omega)))) | ((with_reducible refine bel_step (by assumption) ?_ ?_); (focus (first | (simp; done) | (simp; omega) | omega | (simp at *; omega))))))
end Go.Proofs.YtmgjgkdbagbleaaGreatDoor.Toks
