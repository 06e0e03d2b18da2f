/-
  append onto a row of the call's own, whatever is appended (nil, empty or not): one law, and where the new row lies. What a call owns: how it lasts, and that it lies apart from what else is known. No walk. What is kept by a step: the blocks of a set, which need not lie below a number. No walk.
-/
import Derived.Test.YtmgjgkdbagbleaaGreatDoorZOneTurned1
import Derived.Laws.AppendOwnNone
namespace Go.Proofs.YtmgjgkdbagbleaaGreatDoor.Mem
open Go.RowKit
def cutA (A : Option Addr) (l cap s : Nat) : Option Addr := if cap = l then A else A.map (·.add (l * s))
theorem run_cut {P : Program} {t e : TypeId} {s : Nat} (ht : P.underlying t = some (.slice e)) (hs : ∀ w, (sizeOf e).run P w = .ok s w) (A : Option Addr) (len cap : Nat) (kl : IntKind) (l : Int) (k : Nat) (hl : l = k) (hk : k ≤ len) (w : World) :
    (Instr.slice t (.slice A len cap) (some (.int kl l)) none none).run P w = .ok (.slice (cutA A k cap s) (len - k) (cap - k)) w := by
  subst hl
  have he : P.elem t = e := by simp [Program.elem, ht]
  rw [run_slice_l w t A len cap (by rw [he]; exact ht) kl (k : Int) (by omega) (by omega), he, hs]
  rfl
theorem run_cut2 {P : Program} {t e : TypeId} {s : Nat} (ht : P.underlying t = some (.slice e)) (hs : ∀ w, (sizeOf e).run P w = .ok s w) (A : Option Addr) (len cap : Nat) (kl kh : IntKind) (l h : Int) (k m : Nat) (hl : l = k) (hh : h = m) (hk : k ≤ m) (hm : m ≤ cap) (w : World) :
    (Instr.slice t (.slice A len cap) (some (.int kl l)) (some (.int kh h)) none).run P w = .ok (.slice (cutA A k cap s) (m - k) (cap - k)) w := by
  subst hl hh
  have he : P.elem t = e := by simp [Program.elem, ht]
  rw [run_slice_lh w t A len cap (by rw [he]; exact ht) kl kh (k : Int) (m : Int) (by omega) (by omega) (by omega), he, hs]
  rfl
theorem add_none' (b off i : Nat) : (⟨b, off, none⟩ : Addr).add i = ⟨b, off + i, none⟩ := by
  unfold Addr.add
  split
  · simp_all
  · rfl
theorem Row.cut {w : World} {B n s c : Nat} {A : Option Addr} {f g : Nat → Nat → Value} (h : Row w B A n s f) (k m : Nat) (hk : k + m ≤ n) (hc : n ≤ c) (hg : ∀ i j, i < m → j < s → f (k + i) j = g i j) : Row w B (cutA A k c s) m s g := fun hn => by
  obtain ⟨b, off, rfl, hb, hcell⟩ := h (by omega)
  unfold cutA
  rw [if_neg (by omega)]
  refine ⟨b, off + k * s, by simp [add_none'], hb, fun i j hi hj => ?_⟩
  have := hcell (k + i) j (by omega) hj
  rw [hg i j hi hj] at this
  rw [← this, Nat.add_mul]
  congr 2
  omega
def Src (w : World) (A : Option Addr) (m c size : Nat) (news : List Value) : Prop :=
  news.length = m * size ∧ ((A = none ∧ m = 0 ∧ c = 0) ∨ ∃ ad, A = some ad ∧ ∀ j u, news[j]? = some u → w.cell? (ad.add j) = some u)
theorem add_none (b off i : Nat) : (⟨b, off, none⟩ : Addr).add i = ⟨b, off + i, none⟩ := by
  unfold Addr.add
  split
  · simp_all
  · rfl
theorem Src.of_blk {w : World} {g : Nat} {t : TypeId} {cs : Array Value} (h : Blk w g t cs) (m c size : Nat) (hs : cs.size = m * size) : Src w (some ⟨g, 0, none⟩) m c size cs.toList :=
  ⟨by simpa using hs, .inr ⟨_, rfl, fun j u hu => by rw [add_none, Nat.zero_add, h.cell]; simpa using hu⟩⟩
section
variable {P : Program}
theorem run_app (w : World) (base : Nat) (t ty e : TypeId) (i : TypeInfo) (z : Value) (size bytes : Nat) (ht : P.underlying t = some (.slice e)) (hi : P.info? e = some i) (hz : i.zero = some z)
    (hsize : i.size = size) (hby : i.bytes = bytes) (hzs : z.cells.size = size) (hsz : 0 < size)
    (v : Value) (n : Nat) (xs : List Value) (hown : w.ownsRow base e size v n xs)
    (A : Option Addr) (m c : Nat) (news : List Value) (hsrc : Src w A m c size news) (h1 : ∀ u ∈ news, u.oneCell' = true)
    (h63 : n + m ≤ maxLen) (hbytes : (n + m) * bytes ≤ 140737488355328) (hbase : base ≤ w.heap.size) :
    ∃ v' w', (Builtin.append_ #[t, t] ty #[v, .slice A m c]).run P w = .ok v' w' ∧ w'.ownsRow base e size v' (n + m) (xs ++ news) ∧ w.grownBy w' v.ownBlock ∧
      (v'.ownBlock = v.ownBlock ∨ v'.ownBlock = some w.heap.size) := by
  obtain ⟨hl, hA⟩ := hsrc
  rcases hA with ⟨rfl, rfl, rfl⟩ | ⟨ad, rfl, hc⟩
  · have hn : news = [] := List.eq_nil_of_length_eq_zero (by simpa using hl)
    subst hn
    exact ⟨v, w, run_append_owned_none (P := P) (w := w) base t ty e i size ht hi v n xs hown, by simpa using hown, ⟨rfl, rfl, rfl, Nat.le_refl _, fun _ _ _ => rfl⟩, .inl rfl⟩
  · obtain ⟨v', w', hr, h2, h3, _, h5⟩ := run_append_own_at (P := P) w base t ty e i z size bytes ht hi hz hsize hby hzs hsz v n xs hown ad m c news hl hc h1 h63 hbytes hbase
    exact ⟨v', w', hr, h2, h3, h5⟩
theorem wpList_app {w : World} {ops : Array Oper} {rest : List Oper} {o : Oper} {a : Act} {Q : Exit → Act → World → Prop} (hgd : o.guard = none) (s x : Operand) (t : TypeId)
    (ho : o.op = .call { callee := .builtin .append, args := #[s, x], argTypes := #[t, t] })
    (base : Nat) (e : TypeId) (i : TypeInfo) (z : Value) (size bytes : Nat) (ht : P.underlying t = some (.slice e)) (hi : P.info? e = some i) (hz : i.zero = some z)
    (hsize : i.size = size) (hby : i.bytes = bytes) (hzs : z.cells.size = size) (hsz : 0 < size)
    (v : Value) (n : Nat) (xs : List Value) (hs : a.eval s = v) (hown : w.ownsRow base e size v n xs)
    (A : Option Addr) (m c : Nat) (news : List Value) (hx : a.eval x = .slice A m c) (hsrc : Src w A m c size news) (h1 : ∀ u ∈ news, u.oneCell' = true)
    (h63 : n + m ≤ maxLen) (hbytes : (n + m) * bytes ≤ 140737488355328) (hbase : base ≤ w.heap.size)
    (h : ∀ v' w', w'.ownsRow base e size v' (n + m) (xs ++ news) → w.grownBy w' v.ownBlock → (v'.ownBlock = v.ownBlock ∨ v'.ownBlock = some w.heap.size) → wpList P ops Q rest (a.put o.dst v') w') : wpList P ops Q (o :: rest) a w := by
  refine wpList_plain hgd fun K hK => ?_
  obtain ⟨v', w', hr, h2, h3, h5⟩ := run_app (P := P) w base t o.type e i z size bytes ht hi hz hsize hby hzs hsz v n xs hown A m c news hsrc h1 h63 hbytes hbase
  unfold Oper.wp execOp
  simp only [ho, resolve, invoke, builtin, Sem.run_bind, Sem.run_pure, Result.andThen_ok, List.map_toArray, List.map_cons, List.map_nil, hs, hx, hr]
  exact hK _ _ (h v' w' h2 h3 h5)
end
end Go.Proofs.YtmgjgkdbagbleaaGreatDoor.Mem
namespace Go.Proofs.YtmgjgkdbagbleaaGreatDoor.Own
open Go.RowKit Go.Proofs.YtmgjgkdbagbleaaGreatDoor.Mem
theorem own_kept {w w' : World} {base : Nat} {e : TypeId} {s n : Nat} {v : Value} {xs : List Value} (h : w.ownsRow base e s v n xs) (hk : ∀ g, v.ownBlock = some g → w'.heap[g]? = w.heap[g]?) :
    w'.ownsRow base e s v n xs := by
  refine ⟨h.1, ?_⟩
  rcases h.2 with h0 | ⟨g, cap, cur, rfl, hb, hg, rest⟩
  · exact .inl h0
  · exact .inr ⟨g, cap, cur, rfl, hb, (hk g rfl).trans hg, rest⟩
theorem own_blk {w : World} {base : Nat} {e t : TypeId} {s n g : Nat} {v : Value} {xs : List Value} {cs : Array Value} (h : w.ownsRow base e s v n xs) (hb : Blk w g t cs) (hne : e ≠ t) : v.ownBlock ≠ some g := by
  intro hv
  rcases h.2 with ⟨rfl, _⟩ | ⟨g', cap, cur, rfl, _, hg, _⟩
  · simp [Value.ownBlock] at hv
  · simp [Value.ownBlock] at hv
    subst hv
    exact Blk.apart (t := e) hg hb hne rfl
theorem own_apart {w : World} {base base' : Nat} {e e' : TypeId} {s s' n n' : Nat} {v v' : Value} {xs xs' : List Value} (h : w.ownsRow base e s v n xs) (h' : w.ownsRow base' e' s' v' n' xs') (hne : e ≠ e') :
    v.ownBlock = none ∨ v.ownBlock ≠ v'.ownBlock := by
  rcases h.2 with ⟨rfl, _⟩ | ⟨g, cap, cur, rfl, _, hg, _⟩
  · exact .inl rfl
  · refine .inr fun hv => ?_
    exact own_blk h' (g := g) (t := e) hg (Ne.symm hne) hv.symm
theorem own_shape1 {w : World} {base : Nat} {e : TypeId} {s n : Nat} {v : Value} {xs : List Value} (h : w.ownsRow base e s v (n + 1) xs) : ∃ g cap, v = .slice (some ⟨g, 0, none⟩) (n + 1) cap := by
  rcases h.2 with ⟨_, h0⟩ | ⟨g, cap, cur, rfl, _⟩
  · omega
  · exact ⟨g, cap, rfl⟩
theorem own_wf {w : World} {base : Nat} {e : TypeId} {s n : Nat} {A : Option Addr} {c : Nat} {xs : List Value} (h : w.ownsRow base e s (.slice A n c) n xs) : Wf A n c := by
  rcases h.2 with ⟨hv, hx⟩ | ⟨g, cap, cur, hv, _, _, h1, _⟩
  · injection hv with e1 e2 e3
    subst e1 e2 e3
    exact Wf.nil
  · injection hv with e1 e2 e3
    subst e1 e3
    exact Wf.some h1
end Go.Proofs.YtmgjgkdbagbleaaGreatDoor.Own
namespace Go.Proofs.YtmgjgkdbagbleaaGreatDoor.Own
open Go.RowKit Go.Proofs.YtmgjgkdbagbleaaGreatDoor.Mem
structure Kept (K : Nat → Prop) (a w : World) : Prop where
  os : w.os = a.os
  tape : w.tape = a.tape
  output : w.output = a.output
  size : a.heap.size ≤ w.heap.size
  block : ∀ k, K k → w.heap[k]? = a.heap[k]?
section
variable {K : Nat → Prop} {a b c w w' : World}
theorem Kept.refl (K : Nat → Prop) (a : World) : Kept K a a := ⟨rfl, rfl, rfl, Nat.le_refl _, fun _ _ => rfl⟩
theorem Kept.trans (h : Kept K a b) (k : Kept K b c) : Kept K a c :=
  ⟨k.os.trans h.os, k.tape.trans h.tape, k.output.trans h.output, Nat.le_trans h.size k.size, fun i hi => (k.block i hi).trans (h.block i hi)⟩
theorem Kept.drew (h : Kept K a w) : Kept K a w.drew := ⟨h.os, h.tape, h.output, h.size, h.block⟩
theorem Kept.drewN (h : Kept K a w) (n : Nat) : Kept K a (w.drewN n) := ⟨h.os, h.tape, h.output, h.size, h.block⟩
theorem Kept.set (h : Kept K a w) {p : Addr} (hp : ¬ K p.block) (u : Value) : Kept K a (w.setCell p u) :=
  have hb := (Below.refl 0 w).setCell (p := p) (Nat.zero_le _) u
  ⟨hb.os.trans h.os, hb.tape.trans h.tape, hb.output.trans h.output, Nat.le_trans h.size hb.size, fun k hk => (Below.heap_setCell w p u k (fun e => hp (e ▸ hk))).trans (h.block k hk)⟩
theorem Kept.alloc (h : Kept K a w) (hK : ∀ k, K k → k < w.heap.size) (o : Obj) : Kept K a (w.alloc o) :=
  have hb := (Below.refl 0 w).alloc (Nat.zero_le _) o
  ⟨hb.os.trans h.os, hb.tape.trans h.tape, hb.output.trans h.output, Nat.le_trans h.size hb.size, fun k hk => (Below.heap_alloc w o k (hK k hk)).trans (h.block k hk)⟩
theorem Kept.grown (h : Kept K a w) {row : Option Nat} (hg : w.grownBy w' row) (hK : ∀ k, K k → k < w.heap.size) (hr : ∀ k, row = some k → ¬ K k) : Kept K a w' :=
  ⟨hg.os.trans h.os, hg.tape.trans h.tape, hg.output.trans h.output, Nat.le_trans h.size hg.size, fun k hk => (hg.block k (hK k hk) (fun e => hr k e.symm hk)).trans (h.block k hk)⟩
theorem Kept.of_below {B : Nat} (h : Below B a w) (hK : ∀ k, K k → k < B) : Kept K a w := ⟨h.os, h.tape, h.output, h.size, fun k hk => h.block k (hK k hk)⟩
theorem Kept.below {B : Nat} (h : Kept K a w) (hK : ∀ k, k < B → K k) : Below B a w := ⟨h.os, h.tape, h.output, h.size, fun k hk => h.block k (hK k hk)⟩
theorem Kept.lt (h : Kept K a w) (hK : ∀ k, K k → k < a.heap.size) : ∀ k, K k → k < w.heap.size := fun k hk => Nat.lt_of_lt_of_le (hK k hk) h.size
end
theorem own_mono {w : World} {base base' : Nat} {e : TypeId} {s n : Nat} {v : Value} {xs : List Value} (h : w.ownsRow base e s v n xs) (hb : base' ≤ base) : w.ownsRow base' e s v n xs := by
  refine ⟨h.1, ?_⟩
  rcases h.2 with h0 | ⟨g, cap, cur, rfl, hg, rest⟩
  · exact .inl h0
  · exact .inr ⟨g, cap, cur, rfl, Nat.le_trans hb hg, rest⟩
theorem set_list (l : List Value) (i : Nat) (u : Value) : l.toArray.setIfInBounds i u = (l.set i u).toArray := by simp
end Go.Proofs.YtmgjgkdbagbleaaGreatDoor.Own
