/-
  append onto a row of the call's own, whatever is appended (nil, empty or not): one law, and where the new row lies.
-/
import Derived.Test.YtidclmmnfienlaaGreatDoorMem
import Derived.Laws.AppendOwnNone
namespace Go.Proofs.YtidclmmnfienlaaGreatDoor.Mem
open Go.RowKit

/-- Where a slice begins that is cut ahead of element l. -/
def cutA (A : Option Addr) (l cap s : Nat) : Option Addr := if cap = l then A else A.map (·.add (l * s))
theorem run_cut {P : Program} {t e : TypeId} {s : Nat} (ht : P.underlying t = some (.slice e)) (hs : ∀ w, (sizeOf e).run P w = .ok s w) (A : Option Addr) (len cap : Nat) (kl : IntKind) (l : Int) (k : Nat) (hl : l = k) (hk : k ≤ len) (w : World) :
    (Instr.slice t (.slice A len cap) (some (.int kl l)) none none).run P w = .ok (.slice (cutA A k cap s) (len - k) (cap - k)) w := by
  subst hl
  have he : P.elem t = e := by simp [Program.elem, ht]
  rw [run_slice_l w t A len cap (by rw [he]; exact ht) kl (k : Int) (by omega) (by omega), he, hs]
  rfl
theorem run_cut2 {P : Program} {t e : TypeId} {s : Nat} (ht : P.underlying t = some (.slice e)) (hs : ∀ w, (sizeOf e).run P w = .ok s w) (A : Option Addr) (len cap : Nat) (kl kh : IntKind) (l h : Int) (k m : Nat) (hl : l = k) (hh : h = m) (hk : k ≤ m) (hm : m ≤ cap) (w : World) :
    (Instr.slice t (.slice A len cap) (some (.int kl l)) (some (.int kh h)) none).run P w = .ok (.slice (cutA A k cap s) (m - k) (cap - k)) w := by
  subst hl hh
  have he : P.elem t = e := by simp [Program.elem, ht]
  rw [run_slice_lh w t A len cap (by rw [he]; exact ht) kl kh (k : Int) (m : Int) (by omega) (by omega) (by omega), he, hs]
  rfl
theorem add_none' (b off i : Nat) : (⟨b, off, none⟩ : Addr).add i = ⟨b, off + i, none⟩ := by
  unfold Addr.add
  split
  · simp_all
  · rfl
theorem Row.cut {w : World} {B n s c : Nat} {A : Option Addr} {f g : Nat → Nat → Value} (h : Row w B A n s f) (k m : Nat) (hk : k + m ≤ n) (hc : n ≤ c) (hg : ∀ i j, i < m → j < s → f (k + i) j = g i j) : Row w B (cutA A k c s) m s g := fun hn => by
  obtain ⟨b, off, rfl, hb, hcell⟩ := h (by omega)
  unfold cutA
  rw [if_neg (by omega)]
  refine ⟨b, off + k * s, by simp [add_none'], hb, fun i j hi hj => ?_⟩
  have := hcell (k + i) j (by omega) hj
  rw [hg i j hi hj] at this
  rw [← this, Nat.add_mul]
  congr 2
  omega

/-- The cells that a slice value of m elements leads to. -/
def Src (w : World) (A : Option Addr) (m c size : Nat) (news : List Value) : Prop :=
  news.length = m * size ∧ ((A = none ∧ m = 0 ∧ c = 0) ∨ ∃ ad, A = some ad ∧ ∀ j u, news[j]? = some u → w.cell? (ad.add j) = some u)

theorem Src.nil (w : World) (size : Nat) : Src w none 0 0 size [] := ⟨by simp, .inl ⟨rfl, rfl, rfl⟩⟩
theorem add_none (b off i : Nat) : (⟨b, off, none⟩ : Addr).add i = ⟨b, off + i, none⟩ := by
  unfold Addr.add
  split
  · simp_all
  · rfl
/-- A block that was just made, known whole. -/
theorem Src.of_blk {w : World} {g : Nat} {t : TypeId} {cs : Array Value} (h : Blk w g t cs) (m c size : Nat) (hs : cs.size = m * size) : Src w (some ⟨g, 0, none⟩) m c size cs.toList :=
  ⟨by simpa using hs, .inr ⟨_, rfl, fun j u hu => by rw [add_none, Nat.zero_add, h.cell]; simpa using hu⟩⟩

section
variable {P : Program}
theorem run_app (w : World) (base : Nat) (t ty e : TypeId) (i : TypeInfo) (z : Value) (size bytes : Nat) (ht : P.underlying t = some (.slice e)) (hi : P.info? e = some i) (hz : i.zero = some z)
    (hsize : i.size = size) (hby : i.bytes = bytes) (hzs : z.cells.size = size) (hsz : 0 < size)
    (v : Value) (n : Nat) (xs : List Value) (hown : w.ownsRow base e size v n xs)
    (A : Option Addr) (m c : Nat) (news : List Value) (hsrc : Src w A m c size news) (h1 : ∀ u ∈ news, u.oneCell' = true)
    (h63 : n + m ≤ maxLen) (hbytes : (n + m) * bytes ≤ 140737488355328) (hbase : base ≤ w.heap.size) :
    ∃ v' w', (Builtin.append_ #[t, t] ty #[v, .slice A m c]).run P w = .ok v' w' ∧ w'.ownsRow base e size v' (n + m) (xs ++ news) ∧ w.grownBy w' v.ownBlock ∧
      (v'.ownBlock = v.ownBlock ∨ v'.ownBlock = some w.heap.size) := by
  obtain ⟨hl, hA⟩ := hsrc
  rcases hA with ⟨rfl, rfl, rfl⟩ | ⟨ad, rfl, hc⟩
  · have hn : news = [] := List.eq_nil_of_length_eq_zero (by simpa using hl)
    subst hn
    exact ⟨v, w, run_append_owned_none (P := P) (w := w) base t ty e i size ht hi v n xs hown, by simpa using hown, ⟨rfl, rfl, rfl, Nat.le_refl _, fun _ _ _ => rfl⟩, .inl rfl⟩
  · obtain ⟨v', w', hr, h2, h3, _, h5⟩ := run_append_own_at (P := P) w base t ty e i z size bytes ht hi hz hsize hby hzs hsz v n xs hown ad m c news hl hc h1 h63 hbytes hbase
    exact ⟨v', w', hr, h2, h3, h5⟩

theorem wpList_app {w : World} {ops : Array Oper} {rest : List Oper} {o : Oper} {a : Act} {Q : Exit → Act → World → Prop} (hgd : o.guard = none) (s x : Operand) (t : TypeId)
    (ho : o.op = .call { callee := .builtin .append, args := #[s, x], argTypes := #[t, t] })
    (base : Nat) (e : TypeId) (i : TypeInfo) (z : Value) (size bytes : Nat) (ht : P.underlying t = some (.slice e)) (hi : P.info? e = some i) (hz : i.zero = some z)
    (hsize : i.size = size) (hby : i.bytes = bytes) (hzs : z.cells.size = size) (hsz : 0 < size)
    (v : Value) (n : Nat) (xs : List Value) (hs : a.eval s = v) (hown : w.ownsRow base e size v n xs)
    (A : Option Addr) (m c : Nat) (news : List Value) (hx : a.eval x = .slice A m c) (hsrc : Src w A m c size news) (h1 : ∀ u ∈ news, u.oneCell' = true)
    (h63 : n + m ≤ maxLen) (hbytes : (n + m) * bytes ≤ 140737488355328) (hbase : base ≤ w.heap.size)
    (h : ∀ v' w', w'.ownsRow base e size v' (n + m) (xs ++ news) → w.grownBy w' v.ownBlock → (v'.ownBlock = v.ownBlock ∨ v'.ownBlock = some w.heap.size) → wpList P ops Q rest (a.put o.dst v') w') : wpList P ops Q (o :: rest) a w := by
  refine wpList_plain hgd fun K hK => ?_
  obtain ⟨v', w', hr, h2, h3, h5⟩ := run_app (P := P) w base t o.type e i z size bytes ht hi hz hsize hby hzs hsz v n xs hown A m c news hsrc h1 h63 hbytes hbase
  unfold Oper.wp execOp
  simp only [ho, resolve, invoke, builtin, Sem.run_bind, Sem.run_pure, Result.andThen_ok, List.map_toArray, List.map_cons, List.map_nil, hs, hx, hr]
  exact hK _ _ (h v' w' h2 h3 h5)
end
end Go.Proofs.YtidclmmnfienlaaGreatDoor.Mem
