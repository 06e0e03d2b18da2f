/-
  What a call owns: how it lasts, and that it lies apart from what else is known. No walk.
  What is kept by a step: the blocks of a set, which need not lie below a number. No walk.
-/
import Derived.Test.YtidclmmnfienlaaGreatDoorApp

namespace Go.Proofs.YtidclmmnfienlaaGreatDoor.Own
open Go.RowKit Go.Proofs.YtidclmmnfienlaaGreatDoor.Mem

theorem own_kept {w w' : World} {base : Nat} {e : TypeId} {s n : Nat} {v : Value} {xs : List Value} (h : w.ownsRow base e s v n xs) (hk : ∀ g, v.ownBlock = some g → w'.heap[g]? = w.heap[g]?) :
    w'.ownsRow base e s v n xs := by
  refine ⟨h.1, ?_⟩
  rcases h.2 with h0 | ⟨g, cap, cur, rfl, hb, hg, rest⟩
  · exact .inl h0
  · exact .inr ⟨g, cap, cur, rfl, hb, (hk g rfl).trans hg, rest⟩
theorem own_blk {w : World} {base : Nat} {e t : TypeId} {s n g : Nat} {v : Value} {xs : List Value} {cs : Array Value} (h : w.ownsRow base e s v n xs) (hb : Blk w g t cs) (hne : e ≠ t) : v.ownBlock ≠ some g := by
  intro hv
  rcases h.2 with ⟨rfl, _⟩ | ⟨g', cap, cur, rfl, _, hg, _⟩
  · simp [Value.ownBlock] at hv
  · simp [Value.ownBlock] at hv
    subst hv
    exact Blk.apart (t := e) hg hb hne rfl
theorem own_apart {w : World} {base base' : Nat} {e e' : TypeId} {s s' n n' : Nat} {v v' : Value} {xs xs' : List Value} (h : w.ownsRow base e s v n xs) (h' : w.ownsRow base' e' s' v' n' xs') (hne : e ≠ e') :
    v.ownBlock = none ∨ v.ownBlock ≠ v'.ownBlock := by
  rcases h.2 with ⟨rfl, _⟩ | ⟨g, cap, cur, rfl, _, hg, _⟩
  · exact .inl rfl
  · refine .inr fun hv => ?_
    exact own_blk h' (g := g) (t := e) hg (Ne.symm hne) hv.symm
theorem own_shape1 {w : World} {base : Nat} {e : TypeId} {s n : Nat} {v : Value} {xs : List Value} (h : w.ownsRow base e s v (n + 1) xs) : ∃ g cap, v = .slice (some ⟨g, 0, none⟩) (n + 1) cap := by
  rcases h.2 with ⟨_, h0⟩ | ⟨g, cap, cur, rfl, _⟩
  · omega
  · exact ⟨g, cap, rfl⟩
theorem own_wf {w : World} {base : Nat} {e : TypeId} {s n : Nat} {A : Option Addr} {c : Nat} {xs : List Value} (h : w.ownsRow base e s (.slice A n c) n xs) : Wf A n c := by
  rcases h.2 with ⟨hv, hx⟩ | ⟨g, cap, cur, hv, _, _, h1, _⟩
  · injection hv with e1 e2 e3
    subst e1 e2 e3
    exact Wf.nil
  · injection hv with e1 e2 e3
    subst e1 e3
    exact Wf.some h1
end Go.Proofs.YtidclmmnfienlaaGreatDoor.Own

namespace Go.Proofs.YtidclmmnfienlaaGreatDoor.Own
open Go.RowKit Go.Proofs.YtidclmmnfienlaaGreatDoor.Mem

/-- Behind a: the blocks of K are as they were. -/
structure Kept (K : Nat → Prop) (a w : World) : Prop where
  os : w.os = a.os
  tape : w.tape = a.tape
  output : w.output = a.output
  size : a.heap.size ≤ w.heap.size
  block : ∀ k, K k → w.heap[k]? = a.heap[k]?
section
variable {K : Nat → Prop} {a b c w w' : World}
theorem Kept.refl (K : Nat → Prop) (a : World) : Kept K a a := ⟨rfl, rfl, rfl, Nat.le_refl _, fun _ _ => rfl⟩
theorem Kept.trans (h : Kept K a b) (k : Kept K b c) : Kept K a c :=
  ⟨k.os.trans h.os, k.tape.trans h.tape, k.output.trans h.output, Nat.le_trans h.size k.size, fun i hi => (k.block i hi).trans (h.block i hi)⟩
theorem Kept.drew (h : Kept K a w) : Kept K a w.drew := ⟨h.os, h.tape, h.output, h.size, h.block⟩
theorem Kept.drewN (h : Kept K a w) (n : Nat) : Kept K a (w.drewN n) := ⟨h.os, h.tape, h.output, h.size, h.block⟩
theorem Kept.set (h : Kept K a w) {p : Addr} (hp : ¬ K p.block) (u : Value) : Kept K a (w.setCell p u) :=
  have hb := (Below.refl 0 w).setCell (p := p) (Nat.zero_le _) u
  ⟨hb.os.trans h.os, hb.tape.trans h.tape, hb.output.trans h.output, Nat.le_trans h.size hb.size, fun k hk => (Below.heap_setCell w p u k (fun e => hp (e ▸ hk))).trans (h.block k hk)⟩
theorem Kept.alloc (h : Kept K a w) (hK : ∀ k, K k → k < w.heap.size) (o : Obj) : Kept K a (w.alloc o) :=
  have hb := (Below.refl 0 w).alloc (Nat.zero_le _) o
  ⟨hb.os.trans h.os, hb.tape.trans h.tape, hb.output.trans h.output, Nat.le_trans h.size hb.size, fun k hk => (Below.heap_alloc w o k (hK k hk)).trans (h.block k hk)⟩
theorem Kept.grown (h : Kept K a w) {row : Option Nat} (hg : w.grownBy w' row) (hK : ∀ k, K k → k < w.heap.size) (hr : ∀ k, row = some k → ¬ K k) : Kept K a w' :=
  ⟨hg.os.trans h.os, hg.tape.trans h.tape, hg.output.trans h.output, Nat.le_trans h.size hg.size, fun k hk => (hg.block k (hK k hk) (fun e => hr k e.symm hk)).trans (h.block k hk)⟩
theorem Kept.of_below {B : Nat} (h : Below B a w) (hK : ∀ k, K k → k < B) : Kept K a w := ⟨h.os, h.tape, h.output, h.size, fun k hk => h.block k (hK k hk)⟩
theorem Kept.below {B : Nat} (h : Kept K a w) (hK : ∀ k, k < B → K k) : Below B a w := ⟨h.os, h.tape, h.output, h.size, fun k hk => h.block k (hK k hk)⟩
theorem Kept.lt (h : Kept K a w) (hK : ∀ k, K k → k < a.heap.size) : ∀ k, K k → k < w.heap.size := fun k hk => Nat.lt_of_lt_of_le (hK k hk) h.size
end
theorem own_mono {w : World} {base base' : Nat} {e : TypeId} {s n : Nat} {v : Value} {xs : List Value} (h : w.ownsRow base e s v n xs) (hb : base' ≤ base) : w.ownsRow base' e s v n xs := by
  refine ⟨h.1, ?_⟩
  rcases h.2 with h0 | ⟨g, cap, cur, rfl, hg, rest⟩
  · exact .inl h0
  · exact .inr ⟨g, cap, cur, rfl, Nat.le_trans hb hg, rest⟩
theorem set_list (l : List Value) (i : Nat) (u : Value) : l.toArray.setIfInBounds i u = (l.set i u).toArray := by simp
end Go.Proofs.YtidclmmnfienlaaGreatDoor.Own
