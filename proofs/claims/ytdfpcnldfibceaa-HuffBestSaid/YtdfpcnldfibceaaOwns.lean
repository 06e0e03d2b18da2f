/-
  What a call owns: how it lasts, and that it lies apart from what else is known. No walk.
-/
import Derived.Test.YtdfpcnldfibceaaApp
namespace Go.Proofs.Ytdfpcnldfibceaa.Own
open Go.RowKit Go.Proofs.Ytdfpcnldfibceaa.Mem

theorem own_kept {w w' : World} {base : Nat} {e : TypeId} {s n : Nat} {v : Value} {xs : List Value} (h : w.ownsRow base e s v n xs) (hk : ∀ g, v.ownBlock = some g → w'.heap[g]? = w.heap[g]?) :
    w'.ownsRow base e s v n xs := by
  refine ⟨h.1, ?_⟩
  rcases h.2 with h0 | ⟨g, cap, cur, rfl, hb, hg, rest⟩
  · exact .inl h0
  · exact .inr ⟨g, cap, cur, rfl, hb, (hk g rfl).trans hg, rest⟩
theorem own_blk {w : World} {base : Nat} {e t : TypeId} {s n g : Nat} {v : Value} {xs : List Value} {cs : Array Value} (h : w.ownsRow base e s v n xs) (hb : Blk w g t cs) (hne : e ≠ t) : v.ownBlock ≠ some g := by
  intro hv
  rcases h.2 with ⟨rfl, _⟩ | ⟨g', cap, cur, rfl, _, hg, _⟩
  · simp [Value.ownBlock] at hv
  · simp [Value.ownBlock] at hv
    subst hv
    exact Blk.apart (t := e) hg hb hne rfl
theorem own_apart {w : World} {base base' : Nat} {e e' : TypeId} {s s' n n' : Nat} {v v' : Value} {xs xs' : List Value} (h : w.ownsRow base e s v n xs) (h' : w.ownsRow base' e' s' v' n' xs') (hne : e ≠ e') :
    v.ownBlock = none ∨ v.ownBlock ≠ v'.ownBlock := by
  rcases h.2 with ⟨rfl, _⟩ | ⟨g, cap, cur, rfl, _, hg, _⟩
  · exact .inl rfl
  · refine .inr fun hv => ?_
    exact own_blk h' (g := g) (t := e) hg (Ne.symm hne) hv.symm
theorem own_shape1 {w : World} {base : Nat} {e : TypeId} {s n : Nat} {v : Value} {xs : List Value} (h : w.ownsRow base e s v (n + 1) xs) : ∃ g cap, v = .slice (some ⟨g, 0, none⟩) (n + 1) cap := by
  rcases h.2 with ⟨_, h0⟩ | ⟨g, cap, cur, rfl, _⟩
  · omega
  · exact ⟨g, cap, rfl⟩
theorem own_wf {w : World} {base : Nat} {e : TypeId} {s n : Nat} {A : Option Addr} {c : Nat} {xs : List Value} (h : w.ownsRow base e s (.slice A n c) n xs) : Wf A n c := by
  rcases h.2 with ⟨hv, hx⟩ | ⟨g, cap, cur, hv, _, _, h1, _⟩
  · injection hv with e1 e2 e3
    subst e1 e2 e3
    exact Wf.nil
  · injection hv with e1 e2 e3
    subst e1 e3
    exact Wf.some h1
end Go.Proofs.Ytdfpcnldfibceaa.Own
