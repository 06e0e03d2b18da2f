/-
  The walks of the statements LensWeighs, LensMore, LensRare; the chapter's example.
-/
import Derived.Test.YtdfpcnldfibceaaLensMany
import Derived.Test.YtdfpcnldfibceaaLensAlive
import Derived.Test.YtdfpcnldfibceaaLensCost
import Derived.Test.YtdfpcnldfibceaaRefSame
import Derived.Test.YtdfpcnldfibceaaOpenU32
namespace Go.Proofs.Ytdfpcnldfibceaa.Lens
open Go.RowKit Go.Proofs.Ytdfpcnldfibceaa.Mem Go.Proofs.Ytdfpcnldfibceaa.Own Go.Proofs.Ytdfpcnldfibceaa.Srt Go.Proofs.Ytdfpcnldfibceaa.Canon

theorem row4 {P : Nat → Prop} (h0 : P 0) (h1 : P 1) (h2 : P 2) (h3 : P 3) {i : Nat} (h : i < 4) : P i := by
  have : i = 0 ∨ i = 1 ∨ i = 2 ∨ i = 3 := by omega
  rcases this with rfl | rfl | rfl | rfl <;> assumption

set_option maxHeartbeats 400000 in
set_option maxRecDepth 100000 in
theorem alive07 (w : World) : Calls Try.prog 68 #[] w fun e w' => e = .returned (.bool true) ∧ Below w.heap.size w w' := by
  have c := fun wx (h1 : Row _ _ _ _ _ _) => lens_any wx (some ⟨w.heap.size, 0, none⟩) 4 4 [5, 1, 1, 2] 15 rfl (by omega) (by omega) (by omega) (by intro x hx; simp at hx; omega) h1
  unfold LensPost at c
  simp only [alive_E, alive_O, List.length_cons, List.length_nil, Nat.zero_add, Nat.reduceAdd] at c
  have C := Lib.hid c
  clear c
  go_enter Try.func68, Try.ntmps68
  go_wp2_with fail
  have bA : Blk (w.alloc (.cells #[.int .u32 5, .int .u32 1, .int .u32 1, .int .u32 2] 48)) w.heap.size _ _ := Blk.made w 48 _
  have hbel : Below w.heap.size w (w.alloc (.cells #[.int .u32 5, .int .u32 1, .int .u32 1, .int .u32 2] 48)) := bel_alloc0 (Below.refl _ _)
  have hsz := bA.lt
  generalize w.alloc (.cells #[.int .u32 5, .int .u32 1, .int .u32 1, .int .u32 2] 48) = wx at *
  refine (C.out _ (Row.of_blk bA hsz ?_)).mono ?_
  · intro i j hi hj
    obtain rfl : j = 0 := by omega
    exact row4 (P := fun i => #[Value.int .u32 5, .int .u32 1, .int .u32 1, .int .u32 2][i * 1 + 0]? = some (numF .u32 [5, 1, 1, 2] i 0)) rfl rfl rfl rfl hi
  rintro e w1 ⟨A1, c1, rfl, hrow, hwf, hb1⟩
  have z1 := hb1.size
  have hbel1 : Below w.heap.size w w1 := hbel.trans (hb1.mono (by omega))
  have zz := hbel1.size
  have C2 := Lib.hid (fun w2 (hb : Below w1.heap.size w1 w2) h2 => Huff.same_any w2 A1 (some ⟨w1.heap.size, 0, none⟩) 4 4 c1 4 [1, 3, 3, 2] [1, 3, 3, 2] rfl rfl (fun h => (hwf.1 h).1) (fun h => by cases h) (by intro x hx; simp at hx; omega) (by intro x hx; simp at hx; omega) ((hrow.below hb).mono hb.size) h2)
  clear hrow hwf C bA hsz hbel hb1
  go_wp2_with fail
  refine (C2.out _ (bel_alloc0 (Below.refl _ _)) (Row.of_blk (Blk.made w1 5 _) (by simp) (fun i j hi hj => by
    obtain rfl : j = 0 := by omega
    exact row4 (P := fun i => #[Value.int .u8 1, .int .u8 3, .int .u8 3, .int .u8 2][i * 1 + 0]? = some (numF .u8 [1, 3, 3, 2] i 0)) rfl rfl rfl rfl hi))).mono ?_
  rintro e w2 ⟨rfl, rfl⟩
  go_wp2_with fail
  go_ret
  exact ⟨by simp, bel_alloc zz hbel1⟩

/-! ### LensWeighs -/
theorem law_weighs_long (w : World) (A B : Option Addr) (n c m d : Nat) (_hn : n ≤ 9223372036854775807) (_hm : m ≤ 9223372036854775807) (h : 400 < n ∨ 400 < m) :
    Calls Try.prog 23 #[.slice A n c, .slice B m d] w fun e w' => e = .returned (.bool true) ∧ Below w.heap.size w w' := by
  by_cases h1 : 400 < n
  · clear h
    go_enter Try.func23, Try.ntmps23
    go_wp2_with fail
    refine (alive07 _).mono ?_
    rintro e w1 ⟨rfl, hb1⟩
    go_wp2_with fail
    go_ret
    exact ⟨rfl, hb1⟩
  · have h2 : 400 < m := by omega
    have g1 : decide ((400 : Int) < (n : Int)) = false := by simp; omega
    have g2 : decide (400 < n) = false := by simp; omega
    clear h
    go_enter Try.func23, Try.ntmps23
    go_wp2_with fail
    refine (alive07 _).mono ?_
    rintro e w1 ⟨rfl, hb1⟩
    go_wp2_with fail
    go_ret
    exact ⟨rfl, hb1⟩
theorem Drawn.bel {w w' : World} {B : Nat} {w0 : World} (h : Srt.Drawn w w') (hb : Below B w0 w) : Below B w0 w' := by
  obtain ⟨q, rfl⟩ := h
  exact below_drewN hb q

set_option maxHeartbeats 400000 in
set_option maxRecDepth 100000 in
theorem law_weighs (w : World) (A B : Option Addr) (n c m d : Nat) (ks ls : List Nat) (hn : ks.length = n) (hm : ls.length = m) (hN : n ≤ 400) (hM : m ≤ 400) (h32 : ∀ x ∈ ks, x < 4294967296) (h8 : ∀ x ∈ ls, x ≤ 255) (ha : Row w w.heap.size A n 1 (numF .u32 ks)) (hb : Row w w.heap.size B m 1 (numF .u8 ls)) :
    Calls Try.prog 23 #[.slice A n c, .slice B m d] w fun e w' => e = .returned (.bool true) ∧ Below w.heap.size w w' := by
  have C1 := Lib.hid (fun wx (h : Below w.heap.size w wx) => kraft_any wx B m d ls hm (by omega) ((hb.below h).mono h.size))
  have C2 := Lib.hid (fun wx (h : Below w.heap.size w wx) => refkraft_any wx B m d ls hm (by omega) ((hb.below h).mono h.size))
  have C3 := Lib.hid (fun wx (h : Below w.heap.size w wx) => cost_any wx A B n c m d ks ls hn hm (by omega) (by omega) h32 h8 ((ha.below h).mono h.size) ((hb.below h).mono h.size))
  have C4 := Lib.hid (fun wx (h : Below w.heap.size w wx) => rcost_any wx A B n c m d ks ls hn hm (by omega) (by omega) h32 h8 ((ha.below h).mono h.size) ((hb.below h).mono h.size))
  have g1 : decide ((400 : Int) < (n : Int)) = false := by simp; omega
  have g2 : decide (400 < n) = false := by simp; omega
  have g3 : decide ((400 : Int) < (m : Int)) = false := by simp; omega
  have g4 : decide (400 < m) = false := by simp; omega
  clear hn hm h32 h8 ha hb
  generalize kraftV ls = kv at *
  generalize kraftE ls = ke at *
  generalize costO ks ls = co at *
  generalize costE ks ls = ce at *
  go_enter Try.func23, Try.ntmps23
  go_wp2_with fail
  refine (alive07 _).mono ?_
  rintro e w1 ⟨rfl, hb1⟩
  go_wp2_with fail
  refine (C1.out _ hb1).mono ?_
  rintro e w2 ⟨rfl, rfl⟩
  go_wp2_with fail
  refine (C2.out _ hb1).mono ?_
  rintro e w2 ⟨rfl, rfl⟩
  go_wp2_with fail
  refine (C3.out _ hb1).mono ?_
  rintro e w2 ⟨rfl, hd2⟩
  have hb2 := Drawn.bel hd2 hb1
  go_wp2_with fail
  refine (C4.out _ hb2).mono ?_
  rintro e w3 ⟨rfl, hd3⟩
  have hb3 := Drawn.bel hd3 hb2
  go_wp2_with fail
  go_ret
  exact ⟨by simp, hb3⟩
end Go.Proofs.Ytdfpcnldfibceaa.Lens
