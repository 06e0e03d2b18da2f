/-
  Two writers beside each other: what is put into one leaves the other as it is.
-/
import Derived.Test.YtdfpcnldfibceaaHuffBestPlain
import Derived.Test.YtdfpcnldfibceaaHuffLaws
import Derived.Test.YtdfpcnldfibceaaLensMany
import Derived.Test.YtdfpcnldfibceaaLensCost
import Derived.Laws.MakeOwn
namespace Go.Proofs.Ytdfpcnldfibceaa.Huff
open Go.RowKit Go.Proofs.Ytdfpcnldfibceaa.Mem Go.Proofs.Ytdfpcnldfibceaa.Canon Go.Proofs.Ytdfpcnldfibceaa.Own Go.Proofs.Ytdfpcnldfibceaa.Open

/-- What one writer leaves: the blocks of K, and the other one's. -/
def Oth (K : Nat → Prop) (g : Nat) (v : Value) (x : Nat) : Prop := K x ∨ x = g ∨ v.ownBlock = some x
structure Two (K : Nat → Prop) (w : World) (base g1 g2 : Nat) (t : TypeId) (b1 b2 : List Bool) (v1 v2 : Value) : Prop where
  a : Wr (Oth K g2 v2) w base g1 t [] b1 v1
  b : Wr (Oth K g1 v1) w base g2 t [] b2 v2
theorem Two.symm {K : Nat → Prop} {w : World} {base g1 g2 : Nat} {t : TypeId} {b1 b2 : List Bool} {v1 v2 : Value} (h : Two K w base g1 g2 t b1 b2 v1 v2) : Two K w base g2 g1 t b2 b1 v2 v1 := ⟨h.b, h.a⟩
theorem Two.step {K : Nat → Prop} {w w' : World} {base g1 g2 : Nat} {t : TypeId} {b1 b2 c1 : List Bool} {v1 v2 u1 : Value} (h : Two K w base g1 g2 t b1 b2 v1 v2) (h1 : Wr (Oth K g2 v2) w' base g1 t [] c1 u1) (hk : Kept (Oth K g2 v2) w w') : Two K w' base g1 g2 t c1 b2 u1 v2 := by
  refine ⟨h1, ?_⟩
  refine ⟨(hk.block g2 (.inr (.inl rfl))).trans h.b.blk, own_kept h.b.own fun g hg => hk.block g (.inr (.inr hg)), h.b.ne, Nat.le_trans h.b.base hk.size, ?_, ?_, ?_⟩
  · rintro (h0 | h0 | h0)
    · exact h.b.kg (.inl h0)
    · exact h.b.kg (.inr (.inl h0))
    · exact h1.kv _ h0 (.inr (.inl rfl))
  · intro x hx
    rintro (h0 | h0 | h0)
    · exact h.b.kv x hx (.inl h0)
    · exact h.b.kv x hx (.inr (.inl h0))
    · exact h1.kv _ h0 (.inr (.inr hx))
  · rintro x (h0 | h0 | h0)
    · exact h1.kK x (.inl h0)
    · subst h0; exact h1.blk.lt
    · exact (World.ownsRow.lt h1.own x h0).2
theorem Two.make {K : Nat → Prop} {w : World} {base g1 g2 : Nat} {t : TypeId} (h1 : Blk w g1 t #[.slice none 0 0, .int .i64 0]) (h2 : Blk w g2 t #[.slice none 0 0, .int .i64 0]) (hb : base ≤ w.heap.size) (hne : g1 ≠ g2) (hk1 : ¬ K g1) (hk2 : ¬ K g2) (hK : ∀ k, K k → k < w.heap.size) :
    Two K w base g1 g2 t [] [] (.slice none 0 0) (.slice none 0 0) := by
  refine ⟨⟨h1, World.ownsRow_nil _ _ _ _, (fun h => by cases h), hb, ?_, (fun x h => by cases h), ?_⟩, ⟨h2, World.ownsRow_nil _ _ _ _, (fun h => by cases h), hb, ?_, (fun x h => by cases h), ?_⟩⟩
  · rintro (h0 | h0 | h0)
    · exact hk1 h0
    · exact hne h0
    · cases h0
  · rintro x (h0 | h0 | h0)
    · exact hK x h0
    · subst h0; exact h2.lt
    · cases h0
  · rintro (h0 | h0 | h0)
    · exact hk2 h0
    · exact hne h0.symm
    · cases h0
  · rintro x (h0 | h0 | h0)
    · exact hK x h0
    · subst h0; exact h1.lt
    · cases h0
theorem Two.kept {K : Nat → Prop} {w w' : World} {g : Nat} {v : Value} (h : Kept (Oth K g v) w w') : Kept K w w' := ⟨h.os, h.tape, h.output, h.size, fun b hb => h.block b (.inl hb)⟩
theorem lenAt_nat (ls : List Nat) (x : Nat) : lenAt ls (x : Int) = ls.getD x 0 := by
  unfold lenAt
  rw [if_neg (by omega), Int.toNat_natCast]
theorem check_ok {ls : List Nat} (h : checkE ls = 0) : okB ls = true := by
  unfold checkE at h
  split at h
  · assumption
  · cases h
theorem often_small {n : Nat} {ss : List Nat} (h : ss.length ≤ 400) : ∀ x ∈ Lens.often n ss, x < 4294967296 := by
  intro x hx
  obtain ⟨s, _, rfl⟩ := List.mem_map.1 hx
  have := List.count_le_length (a := s) (l := ss)
  omega
theorem often_get {n : Nat} {ss : List Nat} {s : Nat} (h : s < n) : (Lens.often n ss)[s]? = some (ss.count s) := by
  unfold Lens.often
  rw [List.getElem?_map, List.getElem?_range h]
  rfl
theorem info_u32 : (Try.prog.info? 48).map (fun i => (i.zero, i.size, i.bytes)) = some (some (.int .u32 0), 1, 4) := by kernel_rfl
def u32s (n : Nat) : Array Value := madeCells #[.int .u32 0] n
theorem make_u32 (n : Nat) (hn : n ≤ 65536) (w : World) : (Instr.makeSlice 44 (.int .i64 (n : Int)) (.int .i64 (n : Int))).run Try.prog w =
    .ok (.slice (some ⟨w.heap.size, 0, none⟩) n n) (w.alloc (.cells (u32s n) 48)) := by
  obtain ⟨i0, hi, hz0, hz1, hz2⟩ := info_parts info_u32
  have h := run_make (P := Try.prog) w 44 48 i0 (.int .u32 0) Try.underlying44 hi hz0 .i64 .i64 (n : Int) (n : Int) (by omega) (Int.le_refl _) (by rw [hz2]; omega) (by omega)
  simp only [Int.toNat_natCast] at h
  simpa [hz1, Value.cells, u32s] using h
theorem u32s_eq (n : Nat) : u32s n = ints .u32 (List.replicate n 0) := by
  unfold u32s ints madeCells
  apply Array.ext'
  apply List.ext_getElem
  · simp
  · intro i h1 h2
    simp [Nat.mod_one]
/-- A block of how often symbols are. -/
def cntsV (n : Nat) (ss : List Nat) : Array Value := (numL .u32 (Lens.often n ss)).toArray
theorem cntsV_nil (n : Nat) : cntsV n [] = u32s n := by
  rw [u32s_eq]
  have : Lens.often n [] = List.replicate n 0 := by unfold Lens.often; simp [List.map_const']
  unfold cntsV
  rw [this]
  unfold numL ints
  rw [List.map_replicate, List.map_replicate]
  rfl
theorem cntsV_get {n : Nat} {ss : List Nat} {s : Nat} (h : s < n) : (cntsV n ss)[s]? = some (.int .u32 (ss.count s : Nat)) := by
  unfold cntsV
  rw [List.getElem?_toArray]
  unfold numL
  rw [List.getElem?_map, often_get h]
  rfl
theorem cntsV_size (n : Nat) (ss : List Nat) : (cntsV n ss).size = n := by simp [cntsV, numL, Lens.often]
theorem cntsV_snoc {n : Nat} {ss : List Nat} {s : Nat} (h : s < n) : (cntsV n ss).setIfInBounds s (.int .u32 ((ss.count s + 1 : Nat) : Int)) = cntsV n (ss ++ [s]) := by
  apply Array.ext_getElem?
  intro i
  rw [Array.getElem?_setIfInBounds, cntsV_size]
  by_cases hi : i < n
  · rw [cntsV_get hi, cntsV_get hi, List.count_append]
    by_cases e : s = i
    · subst e; rw [if_pos rfl, if_pos h]; simp
    · rw [if_neg e]
      have : List.count i [s] = 0 := by simp [e]
      rw [this]; rfl
  · rw [if_neg (by omega), Array.getElem?_eq_none (by rw [cntsV_size]; omega), Array.getElem?_eq_none (by rw [cntsV_size]; omega)]
theorem cntsV_row {n : Nat} {ss : List Nat} {w : World} {g : Nat} (h : Blk w g 48 (cntsV n ss)) {B : Nat} (hB : g < B) : Row w B (some ⟨g, 0, none⟩) n 1 (numF .u32 (Lens.often n ss)) :=
  Row.of_blk h hB fun i j hi hj => by
    obtain rfl : j = 0 := by omega
    rw [Nat.mul_one, Nat.add_zero, cntsV_get hi]
    unfold numF
    rw [List.getD_eq_getElem?_getD, often_get hi]
    rfl
set_option maxRecDepth 100000 in
theorem wlen_b (w : World) (g : Nat) (n : Nat) (h : w.cell? ⟨g, 1, none⟩ = some (.int .i64 n)) :
    Calls Try.prog 62 #[.pointer (some ⟨g, 0, none⟩)] w fun e w' => e = .returned (.int .i64 n) ∧ w = w' := by
  go_enter Try.func62, Try.ntmps62
  go_wp2_with fail
  go_ret
  exact ⟨rfl, rfl⟩
set_option maxRecDepth 100000 in
theorem law_hbest_off (w : World) (A B : Option Addr) (n c m d : Nat) (ls : List Nat) (hm : ls.length = m) (hN : n ≤ 9223372036854775807) (hM : m ≤ 9223372036854775807) (hb : Row w w.heap.size B m 1 (numF .u8 ls)) (h : 400 < n ∨ checkE ls ≠ 0 ∨ 256 < m) :
    Calls Try.prog 26 #[.slice A n c, .slice B m d] w fun e w' => e = .returned (.bool true) ∧ Below w.heap.size w w' := by
  have C0 := Lib.hid (fun wx (h : Below w.heap.size w wx) => refcheck_any wx B m d ls hm hM ((hb.below h).mono h.size))
  clear hb hm
  by_cases h4 : 400 < n
  · have g1 : decide ((400 : Int) < (n : Int)) = true := by simp; omega
    have g2 : decide (400 < n) = true := by simp; omega
    clear h
    go_enter Try.func26, Try.ntmps26
    go_wp2_with fail
    refine (alive09 _).mono ?_
    rintro e w1 ⟨rfl, hb1⟩
    go_wp2_with fail
    go_ret
    exact ⟨rfl, hb1⟩
  · have g1 : decide ((400 : Int) < (n : Int)) = false := by simp; omega
    have g2 : decide (400 < n) = false := by simp; omega
    generalize checkE ls = ce at *
    by_cases h5 : ce = 0
    · subst h5
      have h6 : 256 < m := by omega
      have g3 : decide ((256 : Int) < (m : Int)) = true := by simp; omega
      have g4 : decide (256 < m) = true := by simp; omega
      clear h h4
      go_enter Try.func26, Try.ntmps26
      go_wp2_with fail
      refine (alive09 _).mono ?_
      rintro e w1 ⟨rfl, hb1⟩
      go_wp2_with fail
      refine (C0.out _ hb1).mono ?_
      rintro e w2 ⟨rfl, rfl⟩
      go_wp2_with fail
      go_ret
      exact ⟨rfl, hb1⟩
    · have g3 : (ce != 0) = true := by simpa using h5
      clear h h4
      go_enter Try.func26, Try.ntmps26
      go_wp2_with fail
      refine (alive09 _).mono ?_
      rintro e w1 ⟨rfl, hb1⟩
      go_wp2_with fail
      refine (C0.out _ hb1).mono ?_
      rintro e w2 ⟨rfl, rfl⟩
      go_wp2_with fail
      go_ret
      exact ⟨rfl, hb1⟩

end Go.Proofs.Ytdfpcnldfibceaa.Huff
