/-
  Plain functions for the tokens' pieces, and their laws: no program in sight. How often symbols are in tokens: the plain function and its laws. Plain: bytes as tokens, and back (chapter 10).
-/
import Derived.WalkKit
namespace Go.Proofs.YtmgjgkdbagbleaaGreatDoor.Toks
open Go.RowKit
def lg (v : Int) : Int := ((Nat.log2 v.toNat : Nat) : Int)
def pw (b : Int) : Int := ((2 ^ b.toNat : Nat) : Int)
theorem lg_nonneg (v : Int) : 0 ≤ lg v := by unfold lg; omega
theorem pw_pos (b : Int) : 1 ≤ pw b := by
  unfold pw
  have : 0 < 2 ^ b.toNat := Nat.two_pow_pos _
  omega
theorem pw_lg_le (v : Int) (h : 1 ≤ v) : pw (lg v) ≤ v := by
  unfold pw lg
  have := Nat.log2_self_le (n := v.toNat) (by omega)
  rw [Int.toNat_natCast]
  omega
theorem lt_pw_lg (v : Int) (h : 1 ≤ v) : v < 2 * pw (lg v) := by
  unfold pw lg
  have := Nat.lt_log2_self (n := v.toNat)
  rw [Int.toNat_natCast]
  rw [Nat.pow_succ] at this
  omega
theorem pw_mono (a b : Int) (h : a ≤ b) : pw a ≤ pw b := by
  unfold pw
  have := Nat.pow_le_pow_right (n := 2) (by omega) (show a.toNat ≤ b.toNat by omega)
  omega
theorem lg_lt (v b : Int) (_hb : 0 ≤ b) (h1 : 1 ≤ v) (h2 : v < pw b) : lg v < b := by
  have h3 := pw_lg_le v h1
  rcases Int.lt_or_le (lg v) b with h | h
  · exact h
  · have := pw_mono b (lg v) h
    omega
def mayB (lit len dist : Int) : Bool :=
  if len = 0 then decide (dist = 0) else decide (lit = 0 ∧ 3 ≤ len ∧ len ≤ 257 ∧ 1 ≤ dist ∧ dist ≤ 4095)
structure Pc where
  sym : Int
  len : Int
  dist : Int
  far : Int
structure Tk where
  lit : Int
  len : Int
  dist : Int
def Pc.val (p : Pc) : Value := .agg #[.int .i64 p.sym, .int .i64 p.len, .int .i64 p.dist, .int .i64 p.far]
def Tk.val (t : Tk) : Value := .agg #[.int .u8 t.lit, .int .i64 t.len, .int .i64 t.dist]
def splitP (t : Tk) : Pc :=
  if mayB t.lit t.len t.dist = true then
    if t.len = 0 then ⟨t.lit, 0, 0, 0⟩ else ⟨257 + lg (t.len - 2), t.len - 2 - pw (lg (t.len - 2)), lg t.dist, t.dist - pw (lg t.dist)⟩
  else ⟨0, 0, 0, 0⟩
def splitE (t : Tk) : Int := if mayB t.lit t.len t.dist = true then 0 else 7
def litB (p : Pc) : Bool := decide (0 ≤ p.sym ∧ p.sym < 256 ∧ p.len = 0 ∧ p.dist = 0 ∧ p.far = 0)
def matchB (p : Pc) : Bool :=
  decide (257 ≤ p.sym ∧ p.sym < 265 ∧ 0 ≤ p.dist ∧ p.dist < 12 ∧ 0 ≤ p.len ∧ p.len < pw (p.sym - 257) ∧ 0 ≤ p.far ∧ p.far < pw p.dist)
def joinT (p : Pc) : Tk :=
  if litB p = true then ⟨p.sym, 0, 0⟩ else if matchB p = true then ⟨0, 2 + pw (p.sym - 257) + p.len, pw p.dist + p.far⟩ else ⟨0, 0, 0⟩
def joinE (p : Pc) : Int := if litB p = true then 0 else if matchB p = true then 0 else 7
theorem pw_8 : pw 8 = 256 := by decide
theorem pw_12 : pw 12 = 4096 := by decide
theorem join_split (t : Tk) (h0 : 0 ≤ t.lit) (h1 : t.lit < 256) (h : splitE t = 0) : joinE (splitP t) = 0 ∧ joinT (splitP t) = t := by
  have hm : mayB t.lit t.len t.dist = true := by
    unfold splitE at h
    split at h
    · assumption
    · simp at h
  unfold splitP
  rw [if_pos hm]
  by_cases hl : t.len = 0
  · rw [if_pos hl]
    unfold mayB at hm
    rw [if_pos hl] at hm
    have hd : t.dist = 0 := by simpa using hm
    have hlit : litB ⟨t.lit, 0, 0, 0⟩ = true := by simp [litB]; omega
    refine ⟨by simp [joinE, hlit], ?_⟩
    unfold joinT
    rw [if_pos hlit]
    cases t
    simp_all
  · rw [if_neg hl]
    unfold mayB at hm
    rw [if_neg hl] at hm
    obtain ⟨e1, e2, e3, e4, e5⟩ := of_decide_eq_true hm
    have a1 := pw_lg_le (t.len - 2) (by omega)
    have a2 := lt_pw_lg (t.len - 2) (by omega)
    have a3 := lg_nonneg (t.len - 2)
    have a4 := lg_lt (t.len - 2) 8 (by omega) (by omega) (by rw [pw_8]; omega)
    have b1 := pw_lg_le t.dist (by omega)
    have b2 := lt_pw_lg t.dist (by omega)
    have b3 := lg_nonneg t.dist
    have b4 := lg_lt t.dist 12 (by omega) (by omega) (by rw [pw_12]; omega)
    have hs : 257 + lg (t.len - 2) - 257 = lg (t.len - 2) := by omega
    have hlit : litB ⟨257 + lg (t.len - 2), t.len - 2 - pw (lg (t.len - 2)), lg t.dist, t.dist - pw (lg t.dist)⟩ = false := by
      simp [litB]; omega
    have hmat : matchB ⟨257 + lg (t.len - 2), t.len - 2 - pw (lg (t.len - 2)), lg t.dist, t.dist - pw (lg t.dist)⟩ = true := by
      simp only [matchB, hs, decide_eq_true_eq]
      omega
    refine ⟨by simp [joinE, hlit, hmat], ?_⟩
    unfold joinT
    rw [if_neg (by simp [hlit]), if_pos hmat]
    cases t
    simp only [hs]
    simp_all
    omega
end Go.Proofs.YtmgjgkdbagbleaaGreatDoor.Toks
namespace Go.Proofs.YtmgjgkdbagbleaaGreatDoor.Toks
def bump (l : List Int) (i : Nat) : List Int := l.set i (l.getD i 0 + 1)
def cntStep (st : List Int × List Int) (t : Tk) : List Int × List Int :=
  (bump st.1 (splitP t).sym.toNat, if t.len = 0 then st.2 else bump st.2 (splitP t).dist.toNat)
def cnts (ts : List Tk) : List Int × List Int := ts.foldl cntStep (List.replicate 265 0, List.replicate 12 0)
def symsOf (ts : List Tk) : List Int := bump (cnts ts).1 256
def farsOf (ts : List Tk) : List Int := (cnts ts).2
def allOk (ts : List Tk) : Bool := ts.all fun t => mayB t.lit t.len t.dist
theorem bump_length (l : List Int) (i : Nat) : (bump l i).length = l.length := by simp [bump]
theorem cntStep_length (st : List Int × List Int) (t : Tk) : (cntStep st t).1.length = st.1.length ∧ (cntStep st t).2.length = st.2.length := by
  unfold cntStep
  refine ⟨bump_length _ _, ?_⟩
  simp only
  split
  · rfl
  · exact bump_length _ _
theorem foldl_cnt_length (ts : List Tk) : ∀ st : List Int × List Int, (ts.foldl cntStep st).1.length = st.1.length ∧ (ts.foldl cntStep st).2.length = st.2.length := by
  induction ts with
  | nil => intro st; exact ⟨rfl, rfl⟩
  | cons t ts ih =>
    intro st
    have h := ih (cntStep st t)
    have h2 := cntStep_length st t
    exact ⟨h.1.trans h2.1, h.2.trans h2.2⟩
theorem cnts_length (ts : List Tk) : (cnts ts).1.length = 265 ∧ (cnts ts).2.length = 12 := by
  have h := foldl_cnt_length ts (List.replicate 265 0, List.replicate 12 0)
  exact ⟨h.1.trans List.length_replicate, h.2.trans List.length_replicate⟩
theorem cnts_snoc (ts : List Tk) (k : Nat) (h : k < ts.length) : cnts (ts.take (k + 1)) = cntStep (cnts (ts.take k)) ts[k] := by
  unfold cnts
  rw [List.take_succ_eq_append_getElem h, List.foldl_append]
  rfl
def Within (b : Int) (l : List Int) : Prop := ∀ i, 0 ≤ l.getD i 0 ∧ l.getD i 0 ≤ b
theorem Within.mono {b c : Int} {l : List Int} (h : Within b l) (hbc : b ≤ c) : Within c l := fun i => by have := h i; omega
theorem Within.bump {b : Int} {l : List Int} (h : Within b l) (j : Nat) : Within (b + 1) (bump l j) := by
  intro i
  unfold Toks.bump
  simp only [List.getD_eq_getElem?_getD, List.getElem?_set]
  have hi := h i
  have hj := h j
  simp only [List.getD_eq_getElem?_getD] at hi hj
  split
  · split
    · simp; omega
    · simp; omega
  · omega
theorem cnts_within (ts : List Tk) : Within ts.length (cnts ts).1 ∧ Within ts.length (cnts ts).2 := by
  have key : ∀ (ts : List Tk) (st : List Int × List Int) (b : Int), Within b st.1 → Within b st.2 → Within (b + ts.length) (ts.foldl cntStep st).1 ∧ Within (b + ts.length) (ts.foldl cntStep st).2 := by
    intro ts
    induction ts with
    | nil => intro st b h1 h2; simpa using ⟨h1, h2⟩
    | cons t ts ih =>
      intro st b h1 h2
      have h := ih (cntStep st t) (b + 1) (h1.bump _) (by
        unfold cntStep
        simp only
        split
        · exact h2.mono (by omega)
        · exact h2.bump _)
      simp only [List.length_cons, List.foldl_cons]
      exact ⟨h.1.mono (by omega), h.2.mono (by omega)⟩
  have z : ∀ n : Nat, Within 0 (List.replicate n 0) := by
    intro n i
    simp only [List.getD_eq_getElem?_getD, List.getElem?_replicate]
    split <;> simp
  have h := key ts (List.replicate 265 0, List.replicate 12 0) 0 (z _) (z _)
  rw [Int.zero_add] at h
  exact h
theorem sym_nat (t : Tk) (h0 : 0 ≤ t.lit) (h1 : t.lit ≤ 255) (hm : mayB t.lit t.len t.dist = true) :
    ∃ S D : Nat, ∃ L F : Int, splitP t = ⟨S, L, D, F⟩ ∧ S < 265 ∧ D < 12 ∧ (t.len = 0 → S < 256) ∧ (t.len ≠ 0 → 257 ≤ S ∧ 3 ≤ t.len) ∧ splitE t = 0 := by
  by_cases hl : t.len = 0
  · refine ⟨t.lit.toNat, 0, 0, 0, ?_, by omega, by omega, fun _ => by omega, fun h => absurd hl h, ?_⟩
    · unfold splitP; rw [if_pos hm, if_pos hl, Int.toNat_of_nonneg h0]; rfl
    · unfold splitE; rw [if_pos hm]
  · have hb : t.lit = 0 ∧ 3 ≤ t.len ∧ t.len ≤ 257 ∧ 1 ≤ t.dist ∧ t.dist ≤ 4095 := by
      unfold mayB at hm; rw [if_neg hl] at hm; exact of_decide_eq_true hm
    have a1 := lg_nonneg (t.len - 2)
    have a2 := lg_lt (t.len - 2) 8 (by omega) (by omega) (by rw [pw_8]; omega)
    have b1 := lg_nonneg t.dist
    have b2 := lg_lt t.dist 12 (by omega) (by omega) (by rw [pw_12]; omega)
    refine ⟨(257 + lg (t.len - 2)).toNat, (lg t.dist).toNat, t.len - 2 - pw (lg (t.len - 2)), t.dist - pw (lg t.dist), ?_, by omega, by omega, fun h => absurd h hl, fun _ => ⟨by omega, hb.2.1⟩, ?_⟩
    · unfold splitP
      rw [if_pos hm, if_neg hl, Int.toNat_of_nonneg (by omega), Int.toNat_of_nonneg b1]
    · unfold splitE; rw [if_pos hm]
end Go.Proofs.YtmgjgkdbagbleaaGreatDoor.Toks
namespace Go.Proofs.YtmgjgkdbagbleaaGreatDoor.Lz
open Go.Proofs.YtmgjgkdbagbleaaGreatDoor.Toks (Tk mayB)
def alikeF (l : List Nat) (p at_ : Nat) : Nat → Nat → Nat
  | 0, n => n
  | f + 1, n => if n < 257 ∧ at_ + n < l.length ∧ l.getD (p + n) 0 = l.getD (at_ + n) 0 then alikeF l p at_ f (n + 1) else n
def alike (l : List Nat) (p at_ : Nat) : Nat := alikeF l p at_ 257 0
structure IsAlike (l : List Nat) (p at_ k : Nat) : Prop where
  le : k ≤ 257
  fits : k = 0 ∨ at_ + k ≤ l.length
  same : ∀ j, j < k → l.getD (p + j) 0 = l.getD (at_ + j) 0
  stop : ¬ (k < 257 ∧ at_ + k < l.length ∧ l.getD (p + k) 0 = l.getD (at_ + k) 0)
theorem alikeF_is (l : List Nat) (p at_ : Nat) : ∀ (f n : Nat), n + f = 257 → (n = 0 ∨ at_ + n ≤ l.length) → (∀ j, j < n → l.getD (p + j) 0 = l.getD (at_ + j) 0) → IsAlike l p at_ (alikeF l p at_ f n)
  | 0, n, hf, h1, h2 => by
    rw [alikeF]
    exact ⟨by omega, h1, h2, by omega⟩
  | f + 1, n, hf, h1, h2 => by
    rw [alikeF]
    split
    · rename_i h
      refine alikeF_is l p at_ f (n + 1) (by omega) (.inr (by omega)) fun j hj => ?_
      by_cases e : j < n
      · exact h2 j e
      · obtain rfl : j = n := by omega
        exact h.2.2
    · rename_i h
      exact ⟨by omega, h1, h2, h⟩
theorem alike_is (l : List Nat) (p at_ : Nat) : IsAlike l p at_ (alike l p at_) := alikeF_is l p at_ 257 0 rfl (.inl rfl) fun j hj => absurd hj (by omega)
theorem IsAlike.unique {l : List Nat} {p at_ k k' : Nat} (h : IsAlike l p at_ k) (h' : IsAlike l p at_ k') : k = k' := by
  have key : ∀ {a b : Nat}, IsAlike l p at_ a → IsAlike l p at_ b → ¬ a < b := by
    intro a b ha hb hlt
    refine ha.stop ⟨?_, ?_, hb.same a hlt⟩
    · have := hb.le; omega
    · rcases hb.fits with h0 | h0 <;> omega
  have h1 := key h h'
  have h2 := key h' h
  omega
theorem alike_eq {l : List Nat} {p at_ k : Nat} (h : IsAlike l p at_ k) : alike l p at_ = k := (alike_is l p at_).unique h
theorem alike_le (l : List Nat) (p at_ : Nat) : alike l p at_ ≤ 257 := (alike_is l p at_).le
def stepB (l : List Nat) (at_ : Nat) (nd : Nat × Nat) (d : Nat) : Nat × Nat := if nd.1 < alike l (at_ - d) at_ then (alike l (at_ - d) at_, d) else nd
def bestN (l : List Nat) (at_ : Nat) : Nat → Nat × Nat
  | 0 => (0, 0)
  | d + 1 => stepB l at_ (bestN l at_ d) (d + 1)
def bestR (l : List Nat) (at_ : Nat) : Nat × Nat := bestN l at_ (min 4095 at_)
structure Good (l : List Nat) (at_ : Nat) (nd : Nat × Nat) (D : Nat) : Prop where
  n : nd.1 ≤ 257
  d1 : nd.1 ≠ 0 → 1 ≤ nd.2
  d2 : nd.2 ≤ D
  is : nd.1 ≠ 0 → nd.1 = alike l (at_ - nd.2) at_
theorem bestN_good (l : List Nat) (at_ : Nat) : ∀ D, Good l at_ (bestN l at_ D) D
  | 0 => ⟨by simp [bestN], by simp [bestN], by simp [bestN], by simp [bestN]⟩
  | D + 1 => by
    have h := bestN_good l at_ D
    rw [bestN, stepB]
    split
    · exact ⟨alike_le _ _ _, fun _ => by simp, by simp, fun _ => rfl⟩
    · exact ⟨h.n, h.d1, by have := h.d2; omega, h.is⟩
theorem bestR_good (l : List Nat) (at_ : Nat) : Good l at_ (bestR l at_) (min 4095 at_) := bestN_good l at_ _
theorem bestR_fits {l : List Nat} {at_ : Nat} (h : (bestR l at_).1 ≠ 0) : at_ + (bestR l at_).1 ≤ l.length := by
  have hg := (bestR_good l at_).is h
  rcases (alike_is l (at_ - (bestR l at_).2) at_).fits with h0 | h0 <;> omega
def findFrom (l : List Nat) (at_ : Nat) : List Tk :=
  if at_ < l.length then
    if 3 ≤ (bestR l at_).1 then ⟨0, ((bestR l at_).1 : Nat), ((bestR l at_).2 : Nat)⟩ :: findFrom l (at_ + (bestR l at_).1)
    else ⟨(l.getD at_ 0 : Nat), 0, 0⟩ :: findFrom l (at_ + 1)
  else []
termination_by l.length - at_
def find (l : List Nat) : List Tk := findFrom l 0
theorem findFrom_end {l : List Nat} {at_ : Nat} (h : ¬ at_ < l.length) : findFrom l at_ = [] := by rw [findFrom, if_neg h]
theorem findFrom_match {l : List Nat} {at_ : Nat} (h : at_ < l.length) (h3 : 3 ≤ (bestR l at_).1) : findFrom l at_ = ⟨0, ((bestR l at_).1 : Nat), ((bestR l at_).2 : Nat)⟩ :: findFrom l (at_ + (bestR l at_).1) := by
  rw [findFrom, if_pos h, if_pos h3]
theorem findFrom_lit {l : List Nat} {at_ : Nat} (h : at_ < l.length) (h3 : ¬ 3 ≤ (bestR l at_).1) : findFrom l at_ = ⟨(l.getD at_ 0 : Nat), 0, 0⟩ :: findFrom l (at_ + 1) := by
  rw [findFrom, if_pos h, if_neg h3]
theorem findFrom_ind {l : List Nat} {motive : Nat → Prop} (h1 : ∀ at_, ¬ at_ < l.length → motive at_) (h2 : ∀ at_, at_ < l.length → 3 ≤ (bestR l at_).1 → motive (at_ + (bestR l at_).1) → motive at_)
    (h3 : ∀ at_, at_ < l.length → ¬ 3 ≤ (bestR l at_).1 → motive (at_ + 1) → motive at_) : ∀ at_, motive at_ := by
  intro at_
  obtain ⟨m, hm⟩ : ∃ m, m = l.length - at_ := ⟨_, rfl⟩
  induction m using Nat.strongRecOn generalizing at_ with
  | ind m ih =>
    by_cases h : at_ < l.length
    · by_cases h' : 3 ≤ (bestR l at_).1
      · exact h2 at_ h h' (ih _ (by omega) _ rfl)
      · exact h3 at_ h h' (ih _ (by omega) _ rfl)
    · exact h1 at_ h
theorem find_ok {l : List Nat} (h8 : ∀ x ∈ l, x ≤ 255) : ∀ at_, (∀ t ∈ findFrom l at_, (0 ≤ t.lit ∧ t.lit ≤ 255) ∧ mayB t.lit t.len t.dist = true) ∧ (findFrom l at_).length ≤ l.length - at_ := by
  refine findFrom_ind (l := l) ?_ ?_ ?_
  · intro at_ h
    rw [findFrom_end h]
    simp
  · intro at_ h h3 ih
    rw [findFrom_match h h3]
    have hg := bestR_good l at_
    have hd1 := hg.d1 (by omega)
    have hd2 := hg.d2
    have hn := hg.n
    refine ⟨fun t ht => ?_, by rw [List.length_cons]; have := ih.2; have := bestR_fits (l := l) (at_ := at_) (by omega); omega⟩
    rcases List.mem_cons.1 ht with rfl | ht
    · refine ⟨⟨by simp, by simp⟩, ?_⟩
      unfold mayB
      generalize (bestR l at_).1 = n at *
      generalize (bestR l at_).2 = d at *
      rw [if_neg (by show ¬ (n : Int) = 0; omega)]
      exact decide_eq_true ⟨rfl, by show (3 : Int) ≤ (n : Int); omega, by show (n : Int) ≤ 257; omega, by show (1 : Int) ≤ (d : Int); omega, by show (d : Int) ≤ 4095; omega⟩
    · exact ih.1 t ht
  · intro at_ h h3 ih
    rw [findFrom_lit h h3]
    refine ⟨fun t ht => ?_, by rw [List.length_cons]; have := ih.2; omega⟩
    rcases List.mem_cons.1 ht with rfl | ht
    · have hx := h8 l[at_] (List.getElem_mem h)
      have e : l.getD at_ 0 = l[at_] := by rw [List.getD_eq_getElem?_getD, List.getElem?_eq_getElem h]; rfl
      refine ⟨⟨by simp, by simp only [e]; omega⟩, ?_⟩
      unfold mayB
      simp
    · exact ih.1 t ht
def copyT (out : List Nat) : Nat → Nat → List Nat
  | 0, _ => out
  | n + 1, d => copyT (out ++ [out.getD (out.length - d) 0]) n d
theorem copyT_length : ∀ (n d : Nat) (out : List Nat), (copyT out n d).length = out.length + n
  | 0, _, out => rfl
  | n + 1, d, out => by rw [copyT, copyT_length n d]; simp; omega
def playE (most : Int) (out : List Nat) (t : Tk) : Int :=
  if mayB t.lit t.len t.dist = true then if (out.length : Int) < t.dist then 8 else if most - (out.length : Int) < max 1 t.len then 6 else 0 else 7
def playT (most : Int) : List Nat → List Tk → List Nat × Int
  | out, [] => (out, 0)
  | out, t :: ts => if playE most out t = 0 then playT most (if t.len = 0 then out ++ [t.lit.toNat] else copyT out t.len.toNat t.dist.toNat) ts else ([], playE most out t)
def play (ts : List Tk) (most : Int) : List Nat × Int := if most < 0 then ([], 13) else playT most [] ts
theorem copy_same {l : List Nat} {d : Nat} (hd : 1 ≤ d) : ∀ (n at_ : Nat), d ≤ at_ → at_ + n ≤ l.length → (∀ j, j < n → l.getD (at_ - d + j) 0 = l.getD (at_ + j) 0) → copyT (l.take at_) n d = l.take (at_ + n)
  | 0, at_, _, _, _ => rfl
  | n + 1, at_, h1, h2, h3 => by
    have hlen : (l.take at_).length = at_ := by rw [List.length_take]; omega
    rw [copyT, hlen]
    have e : (l.take at_).getD (at_ - d) 0 = l.getD at_ 0 := by
      rw [List.getD_eq_getElem?_getD, List.getElem?_take_of_lt (by omega), ← List.getD_eq_getElem?_getD]
      have := h3 0 (by omega)
      simpa using this
    have e2 : l.take at_ ++ [l.getD at_ 0] = l.take (at_ + 1) := by
      rw [List.take_add_one, List.getElem?_eq_getElem (by omega), List.getD_eq_getElem?_getD, List.getElem?_eq_getElem (by omega)]
      rfl
    rw [e, e2, copy_same hd n (at_ + 1) (by omega) (by omega) (fun j hj => ?_), show at_ + 1 + n = at_ + (n + 1) by omega]
    have := h3 (j + 1) (by omega)
    rw [show at_ + 1 - d + j = at_ - d + (j + 1) by omega, show at_ + 1 + j = at_ + (j + 1) by omega]
    exact this
theorem play_from {l : List Nat} (h8 : ∀ x ∈ l, x ≤ 255) {most : Int} (hm : (l.length : Int) ≤ most) : ∀ at_, at_ ≤ l.length → playT most (l.take at_) (findFrom l at_) = (l, 0) := by
  refine findFrom_ind (l := l) ?_ ?_ ?_
  · intro at_ h hle
    rw [findFrom_end h, playT, List.take_of_length_le (by omega)]
  · intro at_ h h3 ih _
    have hok := ((find_ok h8 at_).1 _ (by rw [findFrom_match h h3]; exact List.mem_cons_self)).2
    have hg := bestR_good l at_
    have hd1 := hg.d1 (by omega)
    have hd2 := hg.d2
    have his := hg.is (by omega)
    have hf := bestR_fits (l := l) (at_ := at_) (by omega)
    have hsame := (alike_is l (at_ - (bestR l at_).2) at_).same
    rw [← his] at hsame
    rw [findFrom_match h h3] at ⊢
    generalize (bestR l at_).1 = n at *
    generalize (bestR l at_).2 = d at *
    have hlen : (l.take at_).length = at_ := by rw [List.length_take]; omega
    have hE : playE most (l.take at_) ⟨0, (n : Nat), (d : Nat)⟩ = 0 := by
      unfold playE
      rw [if_pos hok, hlen, if_neg (by show ¬ (at_ : Int) < (d : Int); omega), if_neg (by show ¬ most - (at_ : Int) < max 1 (n : Int); omega)]
    rw [playT, if_pos hE, if_neg (by show ¬ (n : Int) = 0; omega)]
    show playT most (copyT (l.take at_) ((n : Nat) : Int).toNat ((d : Nat) : Int).toNat) _ = _
    rw [Int.toNat_natCast, Int.toNat_natCast, copy_same hd1 n at_ (by omega) hf hsame]
    exact ih (by omega)
  · intro at_ h h3 ih _
    have hok := ((find_ok h8 at_).1 _ (by rw [findFrom_lit h h3]; exact List.mem_cons_self)).2
    rw [findFrom_lit h h3]
    have hlen : (l.take at_).length = at_ := by rw [List.length_take]; omega
    have hE : playE most (l.take at_) ⟨(l.getD at_ 0 : Nat), 0, 0⟩ = 0 := by
      unfold playE
      rw [if_pos hok, hlen, if_neg (by show ¬ (at_ : Int) < 0; omega), if_neg (by show ¬ most - (at_ : Int) < max 1 0; omega)]
    rw [playT, if_pos hE, if_pos rfl]
    show playT most (l.take at_ ++ [((l.getD at_ 0 : Nat) : Int).toNat]) _ = _
    rw [Int.toNat_natCast, show l.take at_ ++ [l.getD at_ 0] = l.take (at_ + 1) by
      rw [List.take_add_one, List.getElem?_eq_getElem h, List.getD_eq_getElem?_getD, List.getElem?_eq_getElem h]; rfl]
    exact ih (by omega)
theorem play_find {l : List Nat} (h8 : ∀ x ∈ l, x ≤ 255) {most : Int} (hm : (l.length : Int) ≤ most) : play (find l) most = (l, 0) := by
  unfold play find
  rw [if_neg (by omega)]
  exact play_from h8 hm 0 (Nat.zero_le _)
def key3 (l : List Nat) (p : Nat) : Nat × Nat × Nat := (l.getD p 0, l.getD (p + 1) 0, l.getD (p + 2) 0)
def norm (nd : Nat × Nat) : Nat × Nat := if 3 ≤ nd.1 then nd else (0, 0)
theorem alike_key {l : List Nat} {p at_ : Nat} (h : 3 ≤ alike l p at_) : key3 l p = key3 l at_ := by
  have hs := (alike_is l p at_).same
  unfold key3
  have h0 := hs 0 (by omega)
  have h1 := hs 1 (by omega)
  have h2 := hs 2 (by omega)
  simp only [Nat.add_zero] at h0
  rw [h0, h1, h2]
theorem alike_three {l : List Nat} {p at_ : Nat} (h : key3 l p = key3 l at_) (hf : at_ + 3 ≤ l.length) : 3 ≤ alike l p at_ := by
  have ha := alike_is l p at_
  unfold key3 at h
  simp only [Prod.mk.injEq] at h
  rcases Nat.lt_or_ge (alike l p at_) 3 with hlt | hge
  · exfalso
    refine ha.stop ⟨by omega, by omega, ?_⟩
    generalize alike l p at_ = k at hlt
    match k, hlt with
    | 0, _ => exact h.1
    | 1, _ => exact h.2.1
    | 2, _ => exact h.2.2
  · exact hge
end Go.Proofs.YtmgjgkdbagbleaaGreatDoor.Lz
