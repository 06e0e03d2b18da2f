/-
  The walks of package canon's weight and Check.
-/
import Derived.Test.YtdfpcnldfibceaaCanonCount
import Derived.Deep.DeepCutAuto
namespace Go.Proofs.Ytdfpcnldfibceaa.Canon
open Go.RowKit Go.Proofs.Ytdfpcnldfibceaa.Mem

def wsF (f : Nat → Nat) : Nat → Nat
  | 0 => 0
  | l + 1 => wsF f l + (if l = 0 then 0 else f l) * 2 ^ (15 - l)
def wnF (f : Nat → Nat) : Nat → Nat
  | 0 => 0
  | l + 1 => wnF f l + (if l = 0 then 0 else f l)
theorem wsF_cn (ls : List Nat) : ∀ l, wsF (cn ls) l = wsum ls l
  | 0 => rfl
  | l + 1 => by
    rw [wsF, wsum, wsF_cn ls l]
    by_cases h : l = 0 <;> simp [h, cn]
theorem wnF_cn (ls : List Nat) : ∀ l, wnF (cn ls) l = wnum ls l
  | 0 => rfl
  | l + 1 => by
    rw [wnF, wnum, wnF_cn ls l]
    by_cases h : l = 0 <;> simp [h, cn]
theorem wsF_le (f : Nat → Nat) (hf : ∀ l, f l ≤ 300) : ∀ l, wsF f l ≤ l * 9830400
  | 0 => by simp [wsF]
  | l + 1 => by
    have h1 := wsF_le f hf l
    have h2 := hf l
    have h3 : 2 ^ (15 - l) ≤ 2 ^ 15 := Nat.pow_le_pow_right (by omega) (by omega)
    have h4 : (if l = 0 then 0 else f l) * 2 ^ (15 - l) ≤ 300 * 32768 := Nat.mul_le_mul (by split <;> omega) h3
    rw [wsF, Nat.add_mul]
    omega
theorem wnF_le (f : Nat → Nat) (hf : ∀ l, f l ≤ 300) : ∀ l, wnF f l ≤ l * 300
  | 0 => by simp [wnF]
  | l + 1 => by
    have h1 := wnF_le f hf l
    have h2 := hf l
    have h3 : (if l = 0 then 0 else f l) ≤ 300 := by split <;> omega
    rw [wnF, Nat.add_mul]
    omega

set_option maxHeartbeats 1000000 in
set_option maxRecDepth 100000 in
theorem weight_any (w : World) (arr : Array Value) (f : Nat → Nat) (hc : Cnts f 16 arr) (hf : ∀ l, f l ≤ 300) :
    Calls Try.prog 165 #[.agg arr] w fun e w' => e = .returned (.tuple #[.int .i64 (wsF f 16 : Nat), .int .i64 (wnF f 16 : Nat)]) ∧ Below w.heap.size w w' := by
  have HC := Lib.hid hc
  have HF := Lib.hid hf
  have hsz := hc.1
  have HSZ := Lib.hid hsz
  clear hc hf hsz
  go_enter Try.func165, Try.ntmps165
  go_wp2_with fail
  go_loopw [2, 3, 4] (fun s n i wr => ∃ (l S N : Nat), 1 ≤ l ∧ l ≤ 16 ∧ i = .int .i64 l ∧ s = .int .i64 S ∧ n = .int .i64 N ∧ Hid (S = wsF f l) ∧ Hid (N = wnF f l) ∧ S ≤ 157286400 ∧ N ≤ 4800 ∧ Blk wr w.heap.size 198 arr ∧ Below w.heap.size w wr) (fun _ _ i _ => 16 - (intOf i).toNat)
  case atStart => exact ⟨1, 0, 0, by omega, by omega, rfl, rfl, rfl, rfl, rfl, by omega, by omega, Blk.made _ _ _, bel_alloc0 (Below.refl _ _)⟩
  case round =>
    obtain ⟨l, S, N, hl1, hl2, rfl, rfl, rfl, hS, hN, bS, bN, blk, rbel⟩ := hrel
    by_cases hlt : l < 16
    · have c0 := blk.cell l
      rw [HC.out.2 l hlt] at c0
      have hfl := HF.out l
      have hs1 : S + f l * 2 ^ (15 - l) = wsF f (l + 1) := by rw [wsF, if_neg (by omega), hS.out]
      have hn1 : N + f l = wnF f (l + 1) := by rw [wnF, if_neg (by omega), hN.out]
      have b1 := wsF_le f HF.out (l + 1)
      have b2 := wnF_le f HF.out (l + 1)
      rw [← hs1] at b1
      rw [← hn1] at b2
      have HS1 := Lib.hid hs1
      have HN1 := Lib.hid hn1
      clear hs1 hn1
      generalize f l = y at *
      have x0 : (0 : Int) ≤ (l : Int) := by omega
      have x1 : (l : Int) < 16 := by omega
      go_wp2_with fail
      go_roundw
      case rel =>
        go_light
        have b3 : (l + 1) * 9830400 ≤ 16 * 9830400 := Nat.mul_le_mul_right _ (by omega)
        have b4 : (l + 1) * 300 ≤ 16 * 300 := Nat.mul_le_mul_right _ (by omega)
        generalize hz : y * 2 ^ (15 - l) = z at *
        have e1 : wrap64 ((y : Int) * 2 ^ (15 - l)) = (z : Int) := by
          have : ((y : Int) * 2 ^ (15 - l)) = ((z : Nat) : Int) := by rw [← hz]; simp
          rw [this]
          exact IntWalk.wrap64_in _ ⟨by omega, by omega⟩
        have e2 : wrap64 ((S : Int) + (z : Int)) = ((S + z : Nat) : Int) := by
          rw [IntWalk.wrap64_in _ ⟨by omega, by omega⟩]; simp
        exact ⟨l + 1, S + z, N + y, by omega, by omega, by go_num, by rw [e1, e2], by go_num, HS1, HN1, by omega, by omega, blk, rbel⟩
      case measure => go_light; simp [intOf]; omega
    · obtain rfl : l = 16 := by omega
      go_wp2_with fail
      go_ret2
      go_light
      exact ⟨by rw [← hS.out, ← hN.out]; rfl, rbel⟩

theorem good_of {ls : List Nat} (h : goodB ls = true) : ls.length ≤ 300 ∧ ∀ x ∈ ls, x ≤ 15 := by
  unfold goodB at h
  rw [Bool.and_eq_true, List.all_eq_true] at h
  exact ⟨by simpa using h.1, fun x hx => by simpa using h.2 x hx⟩
/-- The error's number of a check. -/
def checkE (ls : List Nat) : Int := if okB ls = true then 0 else 7
theorem okB_good {ls : List Nat} (h : goodB ls = false) : okB ls = false := by
  unfold okB
  unfold goodB at h
  rw [h, Bool.false_and]
theorem okB_of {ls : List Nat} (h : goodB ls = true) : okB ls = (decide (wnum ls 16 = 0) || decide (wnum ls 16 = 1 ∧ cn ls 1 = 1) || decide (wsum ls 16 = 32768)) := by
  obtain ⟨_, h2⟩ := good_of h
  unfold okB
  unfold goodB at h
  rw [h, Bool.true_and, wsum_kraft ls h2, wnum_used ls h2]
  rfl

theorem blk_over {g : Nat} {t : TypeId} : ∀ (vs pre old : List Value) (w : World), old.length = vs.length → Blk w g t (pre ++ old).toArray → Blk (w.setCells g pre.length vs) g t (pre ++ vs).toArray
  | [], pre, old, w, hl, h => by
    have : old = [] := List.eq_nil_of_length_eq_zero hl
    subst this
    exact h
  | v :: vs, pre, [], w, hl, h => by simp at hl
  | v :: vs, pre, x :: old, w, hl, h => by
    have h1 := h.set pre.length v
    have e1 : (pre ++ x :: old).toArray.setIfInBounds pre.length v = ((pre ++ [v]) ++ old).toArray := by
      apply Array.ext'
      simp
    rw [e1] at h1
    have := blk_over vs (pre ++ [v]) old _ (by simpa using hl) h1
    simpa [World.setCells] using this
theorem blk_over0 {g : Nat} {t : TypeId} {cs arr : Array Value} {w : World} (h : Blk w g t cs) (hs : arr.size = cs.size) : Blk (w.setCells g 0 arr.toList) g t arr := by
  have := blk_over (g := g) (t := t) arr.toList [] cs.toList w (by simp [hs]) (by simpa using h)
  simpa using this

theorem checkE_of (ls : List Nat) (f : Nat → Nat) (hg : goodB ls = true → f = cn ls) : checkE ls = if goodB ls = true ∧ (wnF f 16 = 0 ∨ (wnF f 16 = 1 ∧ f 1 = 1) ∨ wsF f 16 = 32768) then 0 else 7 := by
  unfold checkE
  cases hb : goodB ls
  · rw [okB_good hb]; simp
  · rw [okB_of hb, hg hb, wsF_cn, wnF_cn]
    by_cases h1 : wnum ls 16 = 0 <;> by_cases h2 : (wnum ls 16 = 1 ∧ cn ls 1 = 1) <;> by_cases h3 : wsum ls 16 = 32768 <;> simp [h1, h2, h3]

set_option maxHeartbeats 1000000 in
set_option maxRecDepth 100000 in
theorem check_any (w : World) (A : Option Addr) (n c : Nat) (ls : List Nat) (hn : ls.length = n) (hN : n ≤ 9223372036854775807) (ha : Row w w.heap.size A n 1 (numF .u8 ls)) :
    Calls Try.prog 138 #[.slice A n c] w fun e w' => e = .returned (.int .i64 (checkE ls)) ∧ Below w.heap.size w w' := by
  have C := Lib.hid (count_any w A n c ls hn hN ha)
  clear hn ha
  go_enter Try.func138, Try.ntmps138
  go_wp2_with fail
  refine C.out.mono ?_
  rintro e w1 ⟨arr, f, rfl, hc, hf, hg, hb1⟩
  have hsz : arr.size = 16 := hc.1
  have hch := checkE_of ls f hg
  have bl0 : Blk (w1.alloc (.cells #[.int .i64 0, .int .i64 0, .int .i64 0, .int .i64 0, .int .i64 0, .int .i64 0, .int .i64 0, .int .i64 0, .int .i64 0, .int .i64 0, .int .i64 0, .int .i64 0, .int .i64 0, .int .i64 0, .int .i64 0, .int .i64 0] 198)) w1.heap.size 198 _ := Blk.made _ _ _
  have bl1 := blk_over0 (arr := arr) bl0 (by rw [hsz]; rfl)
  have hth : (w1.alloc (.cells #[.int .i64 0, .int .i64 0, .int .i64 0, .int .i64 0, .int .i64 0, .int .i64 0, .int .i64 0, .int .i64 0, .int .i64 0, .int .i64 0, .int .i64 0, .int .i64 0, .int .i64 0, .int .i64 0, .int .i64 0, .int .i64 0] 198)).there w1.heap.size 0 arr.size := by
    rw [hsz]; exact there_blk bl0
  have hinf : (Try.prog.info? 198).map (·.size) = some arr.size := by rw [hsz]; exact info_counts
  have bel1 : Below w.heap.size w ((w1.alloc (.cells #[.int .i64 0, .int .i64 0, .int .i64 0, .int .i64 0, .int .i64 0, .int .i64 0, .int .i64 0, .int .i64 0, .int .i64 0, .int .i64 0, .int .i64 0, .int .i64 0, .int .i64 0, .int .i64 0, .int .i64 0, .int .i64 0] 198)).setCells w1.heap.size 0 arr.toList) :=
    bel_setCells hb1.size _ _ _ (bel_alloc hb1.size hb1)
  have HONE := Lib.hid hc.one
  have HINF := Lib.hid hinf
  have HC := Lib.hid hc
  have HF := Lib.hid hf
  have HCH := Lib.hid hch
  clear hsz hinf hc hf hch hg bl0
  go_upto_region 2 with (refine wpList_store_mid rfl 198 (.tmp 3) (.tmp 10) rfl w1.heap.size 0 arr (by rfl) (by rfl) hth HINF.out HONE.out ?_)
  have hz1 : w1.heap.size < (World.heap ((w1.alloc (.cells #[.int .i64 0, .int .i64 0, .int .i64 0, .int .i64 0, .int .i64 0, .int .i64 0, .int .i64 0, .int .i64 0, .int .i64 0, .int .i64 0, .int .i64 0, .int .i64 0, .int .i64 0, .int .i64 0, .int .i64 0, .int .i64 0] 198)).setCells w1.heap.size 0 arr.toList)).size := bl1.lt
  clear hth
  generalize (w1.alloc (.cells #[.int .i64 0, .int .i64 0, .int .i64 0, .int .i64 0, .int .i64 0, .int .i64 0, .int .i64 0, .int .i64 0, .int .i64 0, .int .i64 0, .int .i64 0, .int .i64 0, .int .i64 0, .int .i64 0, .int .i64 0, .int .i64 0] 198)).setCells w1.heap.size 0 arr.toList = w2 at *
  go_wp2_with (refine wpList_load_row rfl 198 (.tmp 3) rfl w1.heap.size (by rfl) _ arr (0, 0) _ bl1 Try.underlying198 rfl HINF.out ?_)
  refine (weight_any w2 arr f HC.out HF.out).mono ?_
  rintro e w3 ⟨rfl, hb3⟩
  have bl3 := bl1.step hb3
  have bel3 : Below w.heap.size w w3 := bel_step hb3 bel1.size bel1
  have c1 := bl3.cell 1
  rw [HC.out.2 1 (by omega)] at c1
  generalize f 1 = y at *
  generalize wnF f 16 = wn at *
  generalize wsF f 16 = ws at *
  clear C hb1 bl1 bel1
  cases hgood : goodB ls
  · rw [hgood] at HCH
    go_wp2_with fail
    go_ret
    refine ⟨ret_int ?_, bel3⟩
    rw [HCH.out]
    simp
  · rw [hgood] at HCH
    go_wp2_with fail
    all_goals
      go_ret
      refine ⟨ret_int ?_, bel3⟩
      rw [HCH.out]
      go_light
      simp only [true_and]
      first | (rw [if_pos (by omega)]; done) | (rw [if_neg (by omega)]; done) | skip
    all_goals
      simp only [bne_iff_ne, ne_eq, bne_eq_false_iff_eq] at *
      first | (rw [if_pos (by omega)]; done) | (rw [if_neg (by omega)]; done)
end Go.Proofs.Ytdfpcnldfibceaa.Canon
