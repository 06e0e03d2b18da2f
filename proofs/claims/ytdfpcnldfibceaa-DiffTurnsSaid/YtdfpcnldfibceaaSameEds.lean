/-
  The walk of the reference's Same of edits, where both are the same.
-/
import Derived.Test.YtdfpcnldfibceaaRecWalks
import Derived.Test.YtdfpcnldfibceaaEdits2
namespace Go.Proofs.Ytdfpcnldfibceaa.Diff
open Go.RowKit Go.Proofs.Ytdfpcnldfibceaa.Mem Go.Proofs.Ytdfpcnldfibceaa.Recs

theorem ref_same_true (w : World) (A B : Option Addr) (n c d : Nat) (l : List Rec) (hn : l.length = n) (hN : n ≤ 9223372036854775807) (ha : Row w w.heap.size A n 4 (recF l)) (hb : Row w w.heap.size B n 4 (recF l)) :
    Calls Try.prog 52 #[.slice A n c, .slice B n d] w fun e w' => e = .returned (.bool true) ∧ ∃ q, w' = w.drewN q :=
  (ref_same_q w A B n n c d l l hn hn hN hN ha hb).mono fun e w' ⟨he, hw⟩ => ⟨by rw [he]; simp [recsEq], hw⟩

/-- Only draws lie between two worlds. -/
def Drawn (w w' : World) : Prop := ∃ q, w' = w.drewN q
theorem Drawn.refl (w : World) : Drawn w w := ⟨0, rfl⟩
theorem Drawn.drewN {w w' : World} (h : Drawn w w') (n : Nat) : Drawn w (w'.drewN n) := by
  obtain ⟨q, rfl⟩ := h
  exact ⟨_, World.drewN_drewN _ _ _⟩
theorem Drawn.edRow {w w' : World} {A : Option Addr} {es : List Ed} (h : Drawn w w') (hr : EdRow w w.heap.size A es) : EdRow w' w'.heap.size A es := by
  obtain ⟨q, rfl⟩ := h
  exact hr.drewN q

set_option maxHeartbeats 400000 in
theorem eds_same (w : World) (A B : Option Addr) (n c d : Nat) (es : List Ed) (hn : es.length = n) (hN : n ≤ 9223372036854775807) (hR : ∀ e ∈ es, e.recs.length ≤ 9223372036854775807)
    (ha : EdRow w w.heap.size A es) (hb : EdRow w w.heap.size B es) :
    Calls Try.prog 32 #[.slice A n c, .slice B n d] w fun e w' => e = .returned (.bool true) ∧ ∃ q, w' = w.drewN q := by
  have HN := Lib.hid hn
  have HR := Lib.hid hR
  clear hn hR
  go_enter Try.func32, Try.ntmps32
  go_wp2
  go_loopw [5] (fun i wr => ∃ k : Nat, k ≤ n ∧ i = .int .i64 k ∧ Drawn w wr) (fun i _ => n - (intOf i).toNat)
  case atStart => exact ⟨0, by omega, rfl, Drawn.refl w⟩
  case round =>
    obtain ⟨k, hk, rfl, hdr⟩ := hrel
    by_cases hlt : k < n
    · obtain ⟨b, off, rfl, hbb, hc⟩ := (hdr.edRow ha) (by have := HN.out; omega)
      obtain ⟨b', off', rfl, hbb', hc'⟩ := (hdr.edRow hb) (by have := HN.out; omega)
      have hi : k < es.length := by have := HN.out; omega
      have hx : es[k]? = some es[k] := List.getElem?_eq_getElem hi
      have hm : es[k].recs.length ≤ 9223372036854775807 := HR.out _ (List.getElem_mem hi)
      obtain ⟨R, rc, c0, c1, c2, hr, _⟩ := hc k _ hx
      obtain ⟨R', rc', d0, d1, d2, hr', _⟩ := hc' k _ hx
      generalize es[k] = e at *
      clear hc hc' hx
      obtain ⟨kind, num, recs⟩ := e
      simp only at c0 c1 c2 d0 d1 d2 hr hr' hm
      obtain ⟨q, hq⟩ : ∃ q, q = recs.length := ⟨_, rfl⟩
      rw [← hq] at c2 d2 hr hr' hm
      have HQ := Lib.hid hq.symm
      clear hq hi
      have i1 : (0 : Int) ≤ (k : Int) := by omega
      have i2 : (k : Int) < (n : Int) := by omega
      go_wp2_with fail
      go_quiet ((go_at_call 52; exact Calls.quiet_of (ref_same_true _ _ _ _ _ _ recs HQ.out hm (hr.drewN _) (hr'.drewN _))))
      go_wp2_with fail
      go_roundw
      case rel =>
        go_light
        exact ⟨k + 1, by omega, by go_num, hdr.drewN _⟩
      case measure => go_light; simp [intOf]; omega
    · obtain rfl : k = n := by omega
      go_wp2_with fail
      go_ret
      go_light
      exact ⟨rfl, hdr⟩
end Go.Proofs.Ytdfpcnldfibceaa.Diff
