/-
  Words for memory, for all walks of this seat: a block that is known whole (Blk); a slice whose elements are known (Row); how they last. Records of a log: their cells, and when two are the same.
-/
import Derived.WalkKit
import Derived.ProofKit
import Derived.Lib.Hide
import Derived.Laws.OwnMore
import Derived.Deep.Draws
import Derived.Maps.AppendAt
namespace Go.Proofs.YtmgjgkdbagbleaaGreatDoor.Mem
open Go.RowKit
theorem below_drewN {B : Nat} {a w : World} (h : Below B a w) (n : Nat) : Below B a (w.drewN n) := ⟨h.os, h.tape, h.output, h.size, h.block⟩
theorem bel_set {B : Nat} {a w : World} {p : Addr} {u : Value} (hp : B ≤ p.block) (h : Below B a w) : Below B a (w.setCell p u) := h.setCell hp u
theorem bel_alloc {B : Nat} {a w : World} {o : Obj} (hB : B ≤ w.heap.size) (h : Below B a w) : Below B a (w.alloc o) := h.alloc hB o
theorem bel_alloc0 {a w : World} {o : Obj} (h : Below a.heap.size a w) : Below a.heap.size a (w.alloc o) := h.alloc h.size o
theorem bel_step0 {a b c : World} (h : Below b.heap.size b c) (k : Below a.heap.size a b) : Below a.heap.size a c := k.trans (h.mono k.size)
theorem bel_step {B : Nat} {a b c : World} (h : Below b.heap.size b c) (hB : B ≤ b.heap.size) (k : Below B a b) : Below B a c := k.trans (h.mono hB)
theorem ret_bool {a b : Bool} (h : a = b) : Ending.returned (.bool a) = .returned (.bool b) := by rw [h]
theorem ret_int {k : IntKind} {a b : Int} (h : a = b) : Ending.returned (.int k a) = .returned (.int k b) := by rw [h]
def Blk (w : World) (g : Nat) (t : TypeId) (cs : Array Value) : Prop := w.heap[g]? = some (.cells cs t (0, 0))
section
variable {w w' : World} {g : Nat} {t : TypeId} {cs : Array Value}
theorem Blk.lt (h : Blk w g t cs) : g < w.heap.size := by
  unfold Blk at h
  rcases Nat.lt_or_ge g w.heap.size with k | k
  · exact k
  · rw [Array.getElem?_eq_none k] at h; cases h
theorem Blk.cell (h : Blk w g t cs) (i : Nat) : w.cell? ⟨g, i, none⟩ = cs[i]? := by
  unfold Blk at h
  simp [World.cell?, h]
theorem Blk.frozen (h : Blk w g t cs) (i : Nat) : w.frozen? ⟨g, i, none⟩ = false := by
  unfold Blk at h
  simp [World.frozen?, h]
theorem Blk.made (w : World) (t : TypeId) (cs : Array Value) : Blk (w.alloc (.cells cs t)) w.heap.size t cs := heap_alloc_new w _
theorem Blk.made_at (w : World) (t : TypeId) (cs : Array Value) (hg : g = w.heap.size) : Blk (w.alloc (.cells cs t)) g t cs := by subst hg; exact Blk.made w t cs
theorem Blk.drew (h : Blk w g t cs) : Blk w.drew g t cs := h
theorem Blk.drewN (h : Blk w g t cs) (n : Nat) : Blk (w.drewN n) g t cs := h
theorem Blk.alloc (h : Blk w g t cs) (o : Obj) : Blk (w.alloc o) g t cs := (Below.heap_alloc w o g h.lt).trans h
theorem Blk.set (h : Blk w g t cs) (i : Nat) (u : Value) : Blk (w.setCell ⟨g, i, none⟩ u) g t (cs.setIfInBounds i u) := by
  unfold Blk at h ⊢
  simp [World.setCell, Array.getElem?_modify, h]
theorem Blk.far (h : Blk w g t cs) {p : Addr} (hp : g ≠ p.block) (u : Value) : Blk (w.setCell p u) g t cs := (Below.heap_setCell w p u g hp).trans h
theorem Blk.below {B : Nat} (h : Blk w g t cs) (hb : Below B w w') (hg : g < B) : Blk w' g t cs := (hb.block g hg).trans h
theorem Blk.step (h : Blk w g t cs) (hb : Below w.heap.size w w') : Blk w' g t cs := h.below hb h.lt
theorem Blk.grown {row : Option Nat} (h : Blk w g t cs) (hb : w.grownBy w' row) (hg : some g ≠ row) : Blk w' g t cs := (hb.block g h.lt hg).trans h
theorem Blk.apart {g' : Nat} {t' : TypeId} {cs' : Array Value} (h : Blk w g t cs) (h' : Blk w g' t' cs') (hne : t ≠ t') : g ≠ g' := by
  intro e
  subst e
  unfold Blk at h h'
  rw [h] at h'
  injection h' with h'
  injection h' with _ ht
  exact hne ht
end
def Wf (A : Option Addr) (n c : Nat) : Prop := (A = none → n = 0 ∧ c = 0) ∧ n ≤ c
theorem Wf.nil : Wf none 0 0 := ⟨fun _ => ⟨rfl, rfl⟩, Nat.le_refl _⟩
theorem Wf.some {a : Addr} {n c : Nat} (h : n ≤ c) : Wf (Option.some a) n c := ⟨(fun h => by cases h), h⟩
def Row (w : World) (B : Nat) (A : Option Addr) (n s : Nat) (f : Nat → Nat → Value) : Prop :=
  0 < n → ∃ b off, A = some ⟨b, off, none⟩ ∧ b < B ∧ ∀ i j, i < n → j < s → w.cell? ⟨b, off + (i * s + j), none⟩ = some (f i j)
section
variable {w w' : World} {B B' n s : Nat} {A : Option Addr} {f g : Nat → Nat → Value}
theorem Row.zero : Row w B A 0 s f := fun h => absurd h (by omega)
theorem Row.keep (h : Row w B A n s f) (hk : ∀ p : Addr, p.block < B → w'.cell? p = w.cell? p) : Row w' B A n s f := fun hn => by
  obtain ⟨b, off, e, hb, hc⟩ := h hn
  exact ⟨b, off, e, hb, fun i j hi hj => (hk _ hb).trans (hc i j hi hj)⟩
theorem Row.below (h : Row w B A n s f) (hb : Below B w w') : Row w' B A n s f := h.keep fun _ hp => hb.cell hp
theorem Row.mono (h : Row w B A n s f) (hB : B ≤ B') : Row w B' A n s f := fun hn => by
  obtain ⟨b, off, e, hb, hc⟩ := h hn
  exact ⟨b, off, e, by omega, hc⟩
theorem Row.drewN (h : Row w B A n s f) (k : Nat) : Row (w.drewN k) B A n s f := h
theorem Row.congr (h : Row w B A n s f) (hfg : ∀ i j, i < n → j < s → f i j = g i j) : Row w B A n s g := fun hn => by
  obtain ⟨b, off, e, hb, hc⟩ := h hn
  exact ⟨b, off, e, hb, fun i j hi hj => by rw [← hfg i j hi hj]; exact hc i j hi hj⟩
theorem Row.alloc (h : Row w B A n s f) (hB : B ≤ w.heap.size) (o : Obj) : Row (w.alloc o) B A n s f := h.keep fun p hp => World.cell?_alloc_lt (w := w) (a := p) (o := o) (by omega)
theorem Row.of_blk {t : TypeId} {cs : Array Value} {b : Nat} (h : Blk w b t cs) (hB : b < B) (hf : ∀ i j, i < n → j < s → cs[i * s + j]? = some (f i j)) : Row w B (some ⟨b, 0, none⟩) n s f :=
  fun _ => ⟨b, 0, rfl, hB, fun i j hi hj => by rw [Nat.zero_add, h.cell]; exact hf i j hi hj⟩
theorem Row.of_own {base : Nat} {e : TypeId} {v : Value} {xs : List Value} {c : Nat} (h : w.ownsRow base e s v n xs) (hv : v = .slice A n c) (hf : ∀ i j, i < n → j < s → xs[i * s + j]? = some (f i j)) : Row w w.heap.size A n s f := fun hn => by
  rcases h.2 with ⟨_, h0⟩ | ⟨g, cap, cur, hv', _, hh, hnc, _, hcs, htake⟩
  · omega
  · rw [hv] at hv'
    injection hv' with e1 e2 e3
    refine ⟨g, 0, e1, Blk.lt hh, fun i j hi hj => ?_⟩
    rw [Nat.zero_add, Blk.cell hh]
    have := hf i j hi hj
    rw [← htake, List.getElem?_take] at this
    split at this
    · simpa using this
    · cases this
end
theorem own_shape {w : World} {base : Nat} {e : TypeId} {s n : Nat} {v : Value} {xs : List Value} (h : w.ownsRow base e s v n xs) : ∃ A c, v = .slice A n c := by
  rcases h.2 with ⟨rfl, rfl⟩ | ⟨g, cap, cur, rfl, _⟩
  · exact ⟨_, _, rfl⟩
  · exact ⟨_, _, rfl⟩
def ints (k : IntKind) (l : List Int) : Array Value := (l.map (Value.int k)).toArray
theorem ints_get (k : IntKind) (l : List Int) (i : Nat) (h : i < l.length) : (ints k l)[i]? = some (.int k (l.getD i 0)) := by
  simp [ints, h]
theorem ints_set (k : IntKind) (l : List Int) (i : Nat) (x : Int) : (ints k l).setIfInBounds i (.int k x) = ints k (l.set i x) := by
  simp [ints, List.map_set]
end Go.Proofs.YtmgjgkdbagbleaaGreatDoor.Mem
namespace Go.Proofs.YtmgjgkdbagbleaaGreatDoor.Recs
open Go.RowKit Go.Proofs.YtmgjgkdbagbleaaGreatDoor.Mem
structure Rec where
  time : Int
  level : Int
  source : ByteArray
  text : ByteArray
def recd : Rec := ⟨0, 0, .empty, .empty⟩
def recF (l : List Rec) : Nat → Nat → Value := fun i j => match j with
  | 0 => .int .u64 (l.getD i recd).time
  | 1 => .int .u8 (l.getD i recd).level
  | 2 => .string (l.getD i recd).source
  | _ => .string (l.getD i recd).text
def recEq (a b : Rec) : Bool := a.time == b.time && (a.level == b.level && (a.source.toList == b.source.toList && a.text.toList == b.text.toList))
theorem bytes_ext {a b : ByteArray} (h : a.toList = b.toList) : a = b := by
  have h' : a.data.toList = b.data.toList := by rw [← ByteArray.toList_eq, ← ByteArray.toList_eq]; exact h
  cases a; cases b
  simp at h'
  rw [h']
theorem recEq_iff (a b : Rec) : recEq a b = true ↔ a = b := by
  constructor
  · intro h
    simp only [recEq, Bool.and_eq_true, beq_iff_eq] at h
    obtain ⟨h1, h2, h3, h4⟩ := h
    cases a; cases b
    simp only at h1 h2 h3 h4
    rw [h1, h2, bytes_ext h3, bytes_ext h4]
  · intro h
    subst h
    simp [recEq]
instance : DecidableEq Rec := fun a b => if h : recEq a b = true then .isTrue ((recEq_iff a b).1 h) else .isFalse fun e => h ((recEq_iff a b).2 e)
def weigh (r : Rec) : Int := 16 + r.source.size + r.text.size
def weight (l : List Rec) : Int := (l.map weigh).foldl (· + ·) 0
theorem foldl_add (l : List Int) : ∀ a : Int, l.foldl (· + ·) a = a + l.foldl (· + ·) 0 := by
  induction l with
  | nil => intro a; simp
  | cons x l ih => intro a; simp only [List.foldl_cons]; rw [ih (a + x), ih (0 + x)]; omega
theorem weight_snoc (l : List Rec) (r : Rec) : weight (l ++ [r]) = weight l + weigh r := by
  simp [weight]
theorem weight_nil : weight [] = 0 := rfl
end Go.Proofs.YtmgjgkdbagbleaaGreatDoor.Recs
