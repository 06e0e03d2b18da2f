/-
  Plain: the bits that toks.Write puts for tokens, and that each symbol that occurs has a word.
-/
import Derived.Test.YtidclmmnfienlaaDoorCanonW
import Derived.Test.YtidclmmnfienlaaDoorLensFO
import Derived.Test.YtidclmmnfienlaaDoorToksCP
namespace Go.Proofs.YtidclmmnfienlaaDoor.TW
open Go.Proofs.YtidclmmnfienlaaDoor.Canon Go.Proofs.YtidclmmnfienlaaDoor.Huff Go.Proofs.YtidclmmnfienlaaDoor.Lens
open Go.Proofs.YtidclmmnfienlaaDoor.Toks (Tk Pc splitP splitE mayB bump cntStep cnts allOk lg pw Within)

theorem lens15_E {ks : List Nat} (hn : ks.length ≤ 300) : lensE ks 15 = 0 := by
  unfold lensE
  rw [if_neg (by omega), if_neg]
  have h := order_length (kOf ks) ks.length
  show ¬ 2 ^ (15 : Int).toNat < (order (kOf ks) ks.length).length
  have : (2 : Nat) ^ (15 : Int).toNat = 32768 := by decide
  omega
theorem lens15_in {ks : List Nat} (hn : ks.length ≤ 300) {s : Nat} (hs : s < ks.length) (h0 : ks.getD s 0 ≠ 0) : (lensO ks 15).getD s 0 ≠ 0 := by
  have hE := lens15_E hn
  obtain ⟨hn2, L, hL, h1, h2, h3, e⟩ := ok_parts hE
  rw [e, range_getD hs]
  have hm : s ∈ order (kOf ks) ks.length := order_mem.2 ⟨hs, h0⟩
  have := (lenS_in h1 h3 hm).1
  omega

/-! ### What occurs is counted -/
theorem bump_ge (l : List Int) (i j : Nat) : l.getD j 0 ≤ (bump l i).getD j 0 := by
  unfold bump
  simp only [List.getD_eq_getElem?_getD, List.getElem?_set]
  split
  · rename_i h
    subst h
    split
    · simp; omega
    · rename_i h2
      rw [List.getElem?_eq_none (by omega)]
      simp
  · omega
theorem bump_at {l : List Int} {i : Nat} (h : i < l.length) : (bump l i).getD i 0 = l.getD i 0 + 1 := by
  unfold bump
  simp only [List.getD_eq_getElem?_getD, List.getElem?_set]
  rw [if_pos trivial, if_pos h]
  rfl
theorem step_ge (st : List Int × List Int) (t : Tk) (j : Nat) : st.1.getD j 0 ≤ (cntStep st t).1.getD j 0 ∧ st.2.getD j 0 ≤ (cntStep st t).2.getD j 0 := by
  unfold cntStep
  refine ⟨bump_ge _ _ _, ?_⟩
  simp only
  split
  · omega
  · exact bump_ge _ _ _
theorem fold_ge (ts : List Tk) : ∀ (st : List Int × List Int) (j : Nat), st.1.getD j 0 ≤ (ts.foldl cntStep st).1.getD j 0 ∧ st.2.getD j 0 ≤ (ts.foldl cntStep st).2.getD j 0 := by
  induction ts with
  | nil => intro st j; exact ⟨by simp, by simp⟩
  | cons t ts ih =>
    intro st j
    have h := ih (cntStep st t) j
    have h2 := step_ge st t j
    rw [List.foldl_cons]
    exact ⟨by omega, by omega⟩
theorem fold_in {t : Tk} : ∀ (ts : List Tk) (st : List Int × List Int), t ∈ ts →
    ((splitP t).sym.toNat < st.1.length → st.1.getD (splitP t).sym.toNat 0 + 1 ≤ (ts.foldl cntStep st).1.getD (splitP t).sym.toNat 0) ∧
    (t.len ≠ 0 → (splitP t).dist.toNat < st.2.length → st.2.getD (splitP t).dist.toNat 0 + 1 ≤ (ts.foldl cntStep st).2.getD (splitP t).dist.toNat 0)
  | [], _, h => by cases h
  | x :: ts, st, h => by
    rw [List.foldl_cons]
    have hl := Toks.cntStep_length st x
    have hs := step_ge st x
    rcases List.mem_cons.1 h with rfl | h
    · refine ⟨fun hS => ?_, fun h0 hD => ?_⟩
      · have h1 := (fold_ge ts (cntStep st t) (splitP t).sym.toNat).1
        have h2 : (cntStep st t).1.getD (splitP t).sym.toNat 0 = st.1.getD (splitP t).sym.toNat 0 + 1 := bump_at hS
        omega
      · have h1 := (fold_ge ts (cntStep st t) (splitP t).dist.toNat).2
        have h2 : (cntStep st t).2.getD (splitP t).dist.toNat 0 = st.2.getD (splitP t).dist.toNat 0 + 1 := by
          unfold cntStep
          simp only
          rw [if_neg h0]
          exact bump_at hD
        omega
    · have ih := fold_in ts (cntStep st x) h
      refine ⟨fun hS => ?_, fun h0 hD => ?_⟩
      · have h1 := ih.1 (by rw [hl.1]; exact hS)
        have h2 := (hs (splitP t).sym.toNat).1
        omega
      · have h1 := ih.2 h0 (by rw [hl.2]; exact hD)
        have h2 := (hs (splitP t).dist.toNat).2
        omega

/-- A match's piece, in numbers. -/
theorem piece_nat {t : Tk} (hl : t.len ≠ 0) (hm : mayB t.lit t.len t.dist = true) :
    ∃ b L D F : Nat, splitP t = ⟨((257 + b : Nat) : Int), L, D, F⟩ ∧ b < 8 ∧ D < 12 ∧ L < 2 ^ b ∧ F < 2 ^ D := by
  have hb : t.lit = 0 ∧ 3 ≤ t.len ∧ t.len ≤ 257 ∧ 1 ≤ t.dist ∧ t.dist ≤ 4095 := by
    unfold mayB at hm; rw [if_neg hl] at hm; exact of_decide_eq_true hm
  have a1 := Toks.lg_nonneg (t.len - 2)
  have a2 := Toks.lg_lt (t.len - 2) 8 (by omega) (by omega) (by rw [Toks.pw_8]; omega)
  have a3 := Toks.pw_lg_le (t.len - 2) (by omega)
  have a4 := Toks.lt_pw_lg (t.len - 2) (by omega)
  have b1 := Toks.lg_nonneg t.dist
  have b2 := Toks.lg_lt t.dist 12 (by omega) (by omega) (by rw [Toks.pw_12]; omega)
  have b3 := Toks.pw_lg_le t.dist (by omega)
  have b4 := Toks.lt_pw_lg t.dist (by omega)
  refine ⟨(lg (t.len - 2)).toNat, (t.len - 2 - pw (lg (t.len - 2))).toNat, (lg t.dist).toNat, (t.dist - pw (lg t.dist)).toNat, ?_, by omega, by omega, ?_, ?_⟩
  · unfold splitP
    rw [if_pos hm, if_neg hl]
    congr 1 <;> omega
  · have : pw (lg (t.len - 2)) = ((2 ^ (lg (t.len - 2)).toNat : Nat) : Int) := rfl
    omega
  · have : pw (lg t.dist) = ((2 ^ (lg t.dist).toNat : Nat) : Int) := rfl
    omega
/-- A literal's piece. -/
theorem piece_lit {t : Tk} (h0 : 0 ≤ t.lit) (hl : t.len = 0) (hm : mayB t.lit t.len t.dist = true) : splitP t = ⟨((t.lit.toNat : Nat) : Int), 0, 0, 0⟩ := by
  unfold splitP
  rw [if_pos hm, if_pos hl, Int.toNat_of_nonneg h0]

/-! ### The bits -/
/-- The bits of a token. -/
def tokB (ls lf : List Nat) (t : Tk) : List Bool :=
  word ls (splitP t).sym.toNat ++ if t.len = 0 then [] else
    msb (splitP t).len.toNat ((splitP t).sym.toNat - 257) ((splitP t).sym.toNat - 257) ++ (word lf (splitP t).dist.toNat ++ msb (splitP t).far.toNat (splitP t).dist.toNat (splitP t).dist.toNat)
def natL (l : List Int) : List Nat := l.map Int.toNat
theorem natL_length (l : List Int) : (natL l).length = l.length := by simp [natL]
theorem natL_getD (l : List Int) (i : Nat) : (natL l).getD i 0 = (l.getD i 0).toNat := by
  unfold natL
  rw [List.getD_eq_getElem?_getD, List.getD_eq_getElem?_getD, List.getElem?_map]
  cases l[i]? <;> rfl
def ksS (ts : List Tk) : List Nat := natL (Toks.symsOf ts)
def ksF (ts : List Tk) : List Nat := natL (Toks.farsOf ts)
theorem ksS_length (ts : List Tk) : (ksS ts).length = 265 := by
  unfold ksS Toks.symsOf
  rw [natL_length, Toks.bump_length, (Toks.cnts_length ts).1]
theorem ksF_length (ts : List Tk) : (ksF ts).length = 12 := by
  unfold ksF Toks.farsOf
  rw [natL_length, (Toks.cnts_length ts).2]
def lsS (ts : List Tk) : List Nat := lensO (ksS ts) 15
def lsF (ts : List Tk) : List Nat := lensO (ksF ts) 15
theorem lsS_length (ts : List Tk) : (lsS ts).length = 265 := by
  unfold lsS
  rw [lensO_length (lens15_E (by rw [ksS_length]; omega)), ksS_length]
theorem lsF_length (ts : List Tk) : (lsF ts).length = 12 := by
  unfold lsF
  rw [lensO_length (lens15_E (by rw [ksF_length]; omega)), ksF_length]
theorem lsS_ok (ts : List Tk) : okB (lsS ts) = true := okB_lens (lens15_E (by rw [ksS_length]; omega)) (by rw [ksS_length]; omega)
theorem lsF_ok (ts : List Tk) : okB (lsF ts) = true := okB_lens (lens15_E (by rw [ksF_length]; omega)) (by rw [ksF_length]; omega)
theorem syms_pos {ts : List Tk} {t : Tk} (h : t ∈ ts) (hs : (splitP t).sym.toNat < 265) : (lsS ts).getD (splitP t).sym.toNat 0 ≠ 0 := by
  have h1 := (fold_in ts (List.replicate 265 0, List.replicate 12 0) h).1 (by show _ < (List.replicate 265 (0 : Int)).length; rw [List.length_replicate]; exact hs)
  have h2 := bump_ge (cnts ts).1 256 (splitP t).sym.toNat
  refine lens15_in (by rw [ksS_length]; omega) (by rw [ksS_length]; exact hs) ?_
  unfold ksS
  rw [natL_getD]
  have h3 : (List.replicate 265 (0 : Int)).getD (splitP t).sym.toNat 0 = 0 := by
    simp only [List.getD_eq_getElem?_getD, List.getElem?_replicate]
    split <;> rfl
  change _ ≤ (cnts ts).1.getD _ 0 at h1
  simp only [h3] at h1
  show (Toks.bump (cnts ts).1 256 |>.getD _ 0).toNat ≠ 0
  omega
theorem end_pos (ts : List Tk) : (lsS ts).getD 256 0 ≠ 0 := by
  have h2 : (bump (cnts ts).1 256).getD 256 0 = (cnts ts).1.getD 256 0 + 1 := bump_at (by rw [(Toks.cnts_length ts).1]; omega)
  have h1 := (Toks.cnts_within ts).1 256
  refine lens15_in (by rw [ksS_length]; omega) (by rw [ksS_length]; omega) ?_
  unfold ksS
  rw [natL_getD]
  show (Toks.bump (cnts ts).1 256 |>.getD _ 0).toNat ≠ 0
  omega
theorem fars_pos {ts : List Tk} {t : Tk} (h : t ∈ ts) (h0 : t.len ≠ 0) (hs : (splitP t).dist.toNat < 12) : (lsF ts).getD (splitP t).dist.toNat 0 ≠ 0 := by
  have h1 := (fold_in ts (List.replicate 265 0, List.replicate 12 0) h).2 h0 (by show _ < (List.replicate 12 (0 : Int)).length; rw [List.length_replicate]; exact hs)
  refine lens15_in (by rw [ksF_length]; omega) (by rw [ksF_length]; exact hs) ?_
  unfold ksF
  rw [natL_getD]
  have h3 : (List.replicate 12 (0 : Int)).getD (splitP t).dist.toNat 0 = 0 := by
    simp only [List.getD_eq_getElem?_getD, List.getElem?_replicate]
    split <;> rfl
  change _ ≤ (cnts ts).2.getD _ 0 at h1
  simp only [h3] at h1
  show ((cnts ts).2.getD _ 0).toNat ≠ 0
  omega
/-- All bits. -/
def writeBits (ts : List Tk) : List Bool := wrBits (lsS ts) ++ wrBits (lsF ts) ++ (ts.flatMap (tokB (lsS ts) (lsF ts)) ++ word (lsS ts) 256)
/-- The error, and the bytes. -/
def writeE (ts : List Tk) : Int := if 32768 < ts.length then 6 else if allOk ts = true then 0 else 7
def writeO (ts : List Tk) : List Nat := if writeE ts = 0 then bytesOf (writeBits ts) else []
theorem wrGo_length (ls : List Nat) : ∀ f i, (wrGo ls f i).length ≤ 10 * (ls.length - i)
  | 0, i => by simp [wrGo]
  | f + 1, i => by
    unfold wrGo
    by_cases hlt : i < ls.length
    · rw [if_pos hlt]
      by_cases h0 : ls.getD i 0 = 0
      · have hx : ls[i]? = some 0 := by rw [List.getD_eq_getElem?_getD, List.getElem?_eq_getElem hlt] at h0; rw [List.getElem?_eq_getElem hlt]; exact congrArg some h0
        have r1 : 1 ≤ zrun ls i 64 := by have := zrun_pos hx 63; show 1 ≤ zrun ls i (63 + 1); omega
        have rf := zrun_fits ls 64 i (by omega)
        have ih := wrGo_length ls f (i + zrun ls i 64)
        rw [if_pos h0, List.length_append, List.length_append, msb_length, msb_length]
        omega
      · have ih := wrGo_length ls f (i + 1)
        rw [if_neg h0, List.length_append, msb_length]
        omega
    · rw [if_neg hlt]; simp
theorem wrBits_length (ls : List Nat) : (wrBits ls).length ≤ 10 * ls.length := wrGo_length ls ls.length 0
theorem getD_le {ls : List Nat} (h : ∀ x ∈ ls, x ≤ 15) (s : Nat) : ls.getD s 0 ≤ 15 := by
  rw [List.getD_eq_getElem?_getD]
  cases hx : ls[s]? with
  | none => simp
  | some x => simpa using h x (List.mem_of_getElem? hx)
theorem tokB_length {ls lf : List Nat} (h : ∀ x ∈ ls, x ≤ 15) (h' : ∀ x ∈ lf, x ≤ 15) {t : Tk} (hm : mayB t.lit t.len t.dist = true) : (tokB ls lf t).length ≤ 48 := by
  unfold tokB
  have h1 := getD_le h (splitP t).sym.toNat
  have h2 := getD_le h' (splitP t).dist.toNat
  by_cases h0 : t.len = 0
  · rw [if_pos h0, List.append_nil, word_length]; omega
  · obtain ⟨b, L, D, F, e, hb, hD, hL, hF⟩ := piece_nat h0 hm
    rw [if_neg h0, List.length_append, List.length_append, List.length_append, word_length, word_length, msb_length, msb_length]
    rw [e] at h1 h2 ⊢
    simp only [Int.toNat_natCast] at h1 h2 ⊢
    omega
theorem toks_length {ls lf : List Nat} (h : ∀ x ∈ ls, x ≤ 15) (h' : ∀ x ∈ lf, x ≤ 15) : ∀ {ts : List Tk}, allOk ts = true → (ts.flatMap (tokB ls lf)).length ≤ 48 * ts.length
  | [], _ => by simp
  | t :: ts, hm => by
    unfold allOk at hm
    rw [List.all_cons, Bool.and_eq_true] at hm
    have h1 := tokB_length h h' hm.1
    have h2 := toks_length h h' (ts := ts) hm.2
    rw [List.flatMap_cons, List.length_append, List.length_cons]
    omega
theorem toks_snoc {ls lf : List Nat} {ts : List Tk} {k : Nat} (h : k < ts.length) : (ts.take (k + 1)).flatMap (tokB ls lf) = (ts.take k).flatMap (tokB ls lf) ++ tokB ls lf ts[k] := by
  rw [List.take_succ_eq_append_getElem h, List.flatMap_append]
  simp
end Go.Proofs.YtidclmmnfienlaaDoor.TW
