/-
  A coder that lies in memory: what its cells hold, and how it lasts. No walk.
-/
import Derived.Test.YtloakdiioaodaaaCoderPlain
import Derived.Test.YtloakdiioaodaaaCanonCodes
namespace Go.Proofs.Ytloakdiioaodaaa.Huff
open Go.RowKit Go.Proofs.Ytloakdiioaodaaa.Mem Go.Proofs.Ytloakdiioaodaaa.Canon Go.Proofs.Ytloakdiioaodaaa.Own

/-- A row whose block lies from lo on, below B. -/
def RowIn (w : World) (lo B : Nat) (A : Option Addr) (n s : Nat) (f : Nat → Nat → Value) : Prop :=
  0 < n → ∃ b off, A = some ⟨b, off, none⟩ ∧ (lo ≤ b ∧ b < B) ∧ ∀ i j, i < n → j < s → w.cell? ⟨b, off + (i * s + j), none⟩ = some (f i j)
section
variable {w w' : World} {lo lo' B B' n s : Nat} {A : Option Addr} {f g : Nat → Nat → Value}
theorem RowIn.row (h : RowIn w lo B A n s f) : Row w B A n s f := fun hn => by
  obtain ⟨b, off, e, hb, hc⟩ := h hn
  exact ⟨b, off, e, hb.2, hc⟩
theorem RowIn.keep (h : RowIn w lo B A n s f) (hk : ∀ p : Addr, lo ≤ p.block → p.block < B → w'.cell? p = w.cell? p) : RowIn w' lo B A n s f := fun hn => by
  obtain ⟨b, off, e, hb, hc⟩ := h hn
  exact ⟨b, off, e, hb, fun i j hi hj => (hk _ hb.1 hb.2).trans (hc i j hi hj)⟩
theorem RowIn.mono (h : RowIn w lo B A n s f) (hl : lo' ≤ lo) (hB : B ≤ B') : RowIn w lo' B' A n s f := fun hn => by
  obtain ⟨b, off, e, hb, hc⟩ := h hn
  exact ⟨b, off, e, ⟨by omega, by omega⟩, hc⟩
theorem RowIn.congr (h : RowIn w lo B A n s f) (hfg : ∀ i j, i < n → j < s → f i j = g i j) : RowIn w lo B A n s g := fun hn => by
  obtain ⟨b, off, e, hb, hc⟩ := h hn
  exact ⟨b, off, e, hb, fun i j hi hj => by rw [← hfg i j hi hj]; exact hc i j hi hj⟩
theorem RowIn.of_own {base : Nat} {e : TypeId} {v : Value} {xs : List Value} {c : Nat} (h : w.ownsRow base e s v n xs) (hv : v = .slice A n c) (hf : ∀ i j, i < n → j < s → xs[i * s + j]? = some (f i j)) : RowIn w base w.heap.size A n s f := fun hn => by
  rcases h.2 with ⟨_, h0⟩ | ⟨g, cap, cur, hv', hb, hh, hnc, _, hcs, htake⟩
  · omega
  · rw [hv] at hv'
    injection hv' with e1 e2 e3
    refine ⟨g, 0, e1, ⟨hb, Blk.lt hh⟩, fun i j hi hj => ?_⟩
    rw [Nat.zero_add, Blk.cell hh]
    have := hf i j hi hj
    rw [← htake, List.getElem?_take] at this
    split at this
    · simpa using this
    · cases this
theorem RowIn.of_blk {t : TypeId} {cs : Array Value} {b : Nat} (h : Blk w b t cs) (hl : lo ≤ b) (hB : b < B) (hf : ∀ i j, i < n → j < s → cs[i * s + j]? = some (f i j)) : RowIn w lo B (some ⟨b, 0, none⟩) n s f :=
  fun _ => ⟨b, 0, rfl, ⟨hl, hB⟩, fun i j hi hj => by rw [Nat.zero_add, h.cell]; exact hf i j hi hj⟩
end
theorem numL_get {k : IntKind} {ls : List Nat} {i : Nat} (h : i < ls.length) : (numL k ls)[i * 1 + 0]? = some (numF k ls i 0) := by
  simp [numL, numF, List.getD_eq_getElem?_getD, h]

/-- A coder: its blocks lie from lo on, below B. -/
structure Coder (w : World) (lo B g : Nat) (ls : List Nat) : Prop where
  ge : lo ≤ g
  lt : g < B
  free : ∀ i, w.frozen? ⟨g, i, none⟩ = false
  lens : ∃ A c, w.cell? ⟨g, 0, none⟩ = some (.slice A ls.length c) ∧ RowIn w lo B A ls.length 1 (numF .u8 ls)
  codes : ∃ A c, w.cell? ⟨g, 1, none⟩ = some (.slice A ls.length c) ∧ RowIn w lo B A ls.length 1 (fun i _ => .int .u16 (codeW ls i : Nat))
  first : ∀ l, l < 16 → w.cell? ⟨g, 2 + l, none⟩ = some (.int .i64 (firstN ls ls.length l : Nat))
  many : ∀ l, l < 16 → w.cell? ⟨g, 18 + l, none⟩ = some (.int .i64 (cn ls l : Nat))
  syms : ∀ l, l < 16 → ∃ A c, w.cell? ⟨g, 34 + l, none⟩ = some (.slice A (cn ls l) c) ∧ RowIn w lo B A (cn ls l) 1 (numF .i64 (symsN ls l))
theorem Coder.keep {w w' : World} {lo B g : Nat} {ls : List Nat} (h : Coder w lo B g ls) (hk : ∀ b, lo ≤ b → b < B → w'.heap[b]? = w.heap[b]?) : Coder w' lo B g ls := by
  have hg := hk g h.ge h.lt
  have hc : ∀ p : Addr, lo ≤ p.block → p.block < B → w'.cell? p = w.cell? p := fun p h1 h2 => World.cell?_of_block (hk p.block h1 h2)
  have hc0 : ∀ i, w'.cell? ⟨g, i, none⟩ = w.cell? ⟨g, i, none⟩ := fun i => World.cell?_of_block (a := ⟨g, i, none⟩) hg
  refine ⟨h.ge, h.lt, fun i => (World.frozen?_of_block (a := ⟨g, i, none⟩) hg).trans (h.free i), ?_, ?_, fun l hl => (hc0 _).trans (h.first l hl), fun l hl => (hc0 _).trans (h.many l hl), fun l hl => ?_⟩
  · obtain ⟨A, c, h1, h2⟩ := h.lens
    exact ⟨A, c, (hc0 _).trans h1, h2.keep hc⟩
  · obtain ⟨A, c, h1, h2⟩ := h.codes
    exact ⟨A, c, (hc0 _).trans h1, h2.keep hc⟩
  · obtain ⟨A, c, h1, h2⟩ := h.syms l hl
    exact ⟨A, c, (hc0 _).trans h1, h2.keep hc⟩
theorem Coder.below {w w' : World} {lo B g : Nat} {ls : List Nat} (h : Coder w lo B g ls) {C : Nat} (hb : Below C w w') (hC : B ≤ C) : Coder w' lo B g ls :=
  h.keep fun b _ h2 => hb.block b (by omega)
theorem Coder.mono {w : World} {lo lo' B B' g : Nat} {ls : List Nat} (h : Coder w lo B g ls) (hl : lo' ≤ lo) (hB : B ≤ B') : Coder w lo' B' g ls := by
  refine ⟨by have := h.ge; omega, by have := h.lt; omega, h.free, ?_, ?_, h.first, h.many, fun l hx => ?_⟩
  · obtain ⟨A, c, h1, h2⟩ := h.lens
    exact ⟨A, c, h1, h2.mono hl hB⟩
  · obtain ⟨A, c, h1, h2⟩ := h.codes
    exact ⟨A, c, h1, h2.mono hl hB⟩
  · obtain ⟨A, c, h1, h2⟩ := h.syms l hx
    exact ⟨A, c, h1, h2.mono hl hB⟩

/-- What is made is a coder. -/
theorem coder_of {w w2 wr : World} {lo g gc n c2 : Nat} {ls : List Nat} {A2 : Option Addr} {sv : Nat → Value} {cs arr : Array Value} (hn : ls.length = n) (hlo : lo ≤ w.heap.size) (z1 : w.heap.size ≤ g) (hg : g = w2.heap.size)
    (blk : Blk wr g 116 cs) (hC : Cells ls n (.slice A2 n c2) (.slice (some ⟨gc, 0, none⟩) n n) sv cs) (hR : Rows wr (g + 1) ls n sv) (rbel : Below g w2 wr)
    (hown2 : w2.ownsRow w.heap.size 5 1 (.slice A2 n c2) n (numL .u8 ls)) (bc2 : Blk w2 gc 109 arr) (hgc : lo ≤ gc) (hW : Wds ls n n arr) : Coder wr lo wr.heap.size g ls := by
  subst hn hg
  have rz := rbel.size
  have htk : ls.take ls.length = ls := List.take_of_length_le (Nat.le_refl _)
  refine ⟨by omega, blk.lt, blk.frozen, ⟨A2, c2, (blk.cell 0).trans hC.lens, ?_⟩, ⟨some ⟨gc, 0, none⟩, ls.length, (blk.cell 1).trans hC.codes, ?_⟩, fun l hl => (blk.cell _).trans (hC.first l hl), fun l hl => ?_, fun l hl => ?_⟩
  · have := RowIn.of_own (f := numF .u8 ls) hown2 rfl (fun i j hi hj => by have e0 : j = 0 := (by omega); subst e0; exact numL_get hi)
    exact (this.keep (fun p _ h2 => rbel.cell h2)).mono hlo rz
  · have := RowIn.of_blk (n := ls.length) (s := 1) (lo := lo) (B := w2.heap.size) (f := fun i _ => .int .u16 (codeW ls i : Nat)) bc2 hgc bc2.lt (fun i j hi hj => by
      obtain rfl : j = 0 := by omega
      rw [Nat.mul_one, Nat.add_zero, hW.2 i hi, if_pos hi])
    exact (this.keep (fun p _ h2 => rbel.cell h2)).mono (Nat.le_refl _) rz
  · have := hC.many l hl
    rw [htk] at this
    exact (blk.cell _).trans this
  · have h1 := hR.own l hl
    rw [htk] at h1
    obtain ⟨A, c, e⟩ := own_shape h1
    have h2 := hC.syms l hl
    rw [e] at h2
    refine ⟨A, c, (blk.cell _).trans h2, ?_⟩
    exact (RowIn.of_own (f := numF .i64 (symsN ls l)) h1 e (fun i j hi hj => by have e0 : j = 0 := (by omega); subst e0; exact numL_get (by rw [symsN_length]; exact hi))).mono (by omega) (Nat.le_refl _)
end Go.Proofs.Ytloakdiioaodaaa.Huff
