/-
  Plain: the bits that toks.Write puts for tokens, and that each symbol that occurs has a word. The walk of toks' (*writer).coder: the lengths are found and written, the coder is made. The walk of toks' (*writer).token: a token's bits are put.
-/
import Derived.Test.YtcafklmbehoggaaGreatDoorZBodyNone18
import Derived.Test.YtcafklmbehoggaaGreatDoorZBodyNone21
import Derived.Test.YtcafklmbehoggaaGreatDoorZBodyNone1
import Derived.Test.YtcafklmbehoggaaGreatDoorZBodyNone19
import Derived.Test.YtcafklmbehoggaaGreatDoorZBodyNone12
namespace Go.Proofs.YtcafklmbehoggaaGreatDoor.TW
open Go.Proofs.YtcafklmbehoggaaGreatDoor.Canon Go.Proofs.YtcafklmbehoggaaGreatDoor.Huff Go.Proofs.YtcafklmbehoggaaGreatDoor.Lens
open Go.Proofs.YtcafklmbehoggaaGreatDoor.Toks (Tk Pc splitP splitE mayB bump cntStep cnts allOk lg pw Within)
theorem lens15_E {ks : List Nat} (hn : ks.length ≤ 300) : lensE ks 15 = 0 := by
  unfold lensE
  rw [if_neg (by omega), if_neg]
  have h := order_length (kOf ks) ks.length
  show ¬ 2 ^ (15 : Int).toNat < (order (kOf ks) ks.length).length
  have : (2 : Nat) ^ (15 : Int).toNat = 32768 := by decide
  omega
theorem lens15_in {ks : List Nat} (hn : ks.length ≤ 300) {s : Nat} (hs : s < ks.length) (h0 : ks.getD s 0 ≠ 0) : (lensO ks 15).getD s 0 ≠ 0 := by
  have hE := lens15_E hn
  obtain ⟨hn2, L, hL, h1, h2, h3, e⟩ := ok_parts hE
  rw [e, range_getD hs]
  have hm : s ∈ order (kOf ks) ks.length := order_mem.2 ⟨hs, h0⟩
  have := (lenS_in h1 h3 hm).1
  omega
theorem bump_ge (l : List Int) (i j : Nat) : l.getD j 0 ≤ (bump l i).getD j 0 := by
  unfold bump
  simp only [List.getD_eq_getElem?_getD, List.getElem?_set]
  split
  · rename_i h
    subst h
    split
    · simp; omega
    · rename_i h2
      rw [List.getElem?_eq_none (by omega)]
      simp
  · omega
theorem bump_at {l : List Int} {i : Nat} (h : i < l.length) : (bump l i).getD i 0 = l.getD i 0 + 1 := by
  unfold bump
  simp only [List.getD_eq_getElem?_getD, List.getElem?_set]
  rw [if_pos trivial, if_pos h]
  rfl
theorem step_ge (st : List Int × List Int) (t : Tk) (j : Nat) : st.1.getD j 0 ≤ (cntStep st t).1.getD j 0 ∧ st.2.getD j 0 ≤ (cntStep st t).2.getD j 0 := by
  unfold cntStep
  refine ⟨bump_ge _ _ _, ?_⟩
  simp only
  split
  · omega
  · exact bump_ge _ _ _
theorem fold_ge (ts : List Tk) : ∀ (st : List Int × List Int) (j : Nat), st.1.getD j 0 ≤ (ts.foldl cntStep st).1.getD j 0 ∧ st.2.getD j 0 ≤ (ts.foldl cntStep st).2.getD j 0 := by
  induction ts with
  | nil => intro st j; exact ⟨by simp, by simp⟩
  | cons t ts ih =>
    intro st j
    have h := ih (cntStep st t) j
    have h2 := step_ge st t j
    rw [List.foldl_cons]
    exact ⟨by omega, by omega⟩
theorem fold_in {t : Tk} : ∀ (ts : List Tk) (st : List Int × List Int), t ∈ ts →
    ((splitP t).sym.toNat < st.1.length → st.1.getD (splitP t).sym.toNat 0 + 1 ≤ (ts.foldl cntStep st).1.getD (splitP t).sym.toNat 0) ∧
    (t.len ≠ 0 → (splitP t).dist.toNat < st.2.length → st.2.getD (splitP t).dist.toNat 0 + 1 ≤ (ts.foldl cntStep st).2.getD (splitP t).dist.toNat 0)
  | [], _, h => by cases h
  | x :: ts, st, h => by
    rw [List.foldl_cons]
    have hl := Toks.cntStep_length st x
    have hs := step_ge st x
    rcases List.mem_cons.1 h with rfl | h
    · refine ⟨fun hS => ?_, fun h0 hD => ?_⟩
      · have h1 := (fold_ge ts (cntStep st t) (splitP t).sym.toNat).1
        have h2 : (cntStep st t).1.getD (splitP t).sym.toNat 0 = st.1.getD (splitP t).sym.toNat 0 + 1 := bump_at hS
        omega
      · have h1 := (fold_ge ts (cntStep st t) (splitP t).dist.toNat).2
        have h2 : (cntStep st t).2.getD (splitP t).dist.toNat 0 = st.2.getD (splitP t).dist.toNat 0 + 1 := by
          unfold cntStep
          simp only
          rw [if_neg h0]
          exact bump_at hD
        omega
    · have ih := fold_in ts (cntStep st x) h
      refine ⟨fun hS => ?_, fun h0 hD => ?_⟩
      · have h1 := ih.1 (by rw [hl.1]; exact hS)
        have h2 := (hs (splitP t).sym.toNat).1
        omega
      · have h1 := ih.2 h0 (by rw [hl.2]; exact hD)
        have h2 := (hs (splitP t).dist.toNat).2
        omega
theorem piece_nat {t : Tk} (hl : t.len ≠ 0) (hm : mayB t.lit t.len t.dist = true) :
    ∃ b L D F : Nat, splitP t = ⟨((257 + b : Nat) : Int), L, D, F⟩ ∧ b < 8 ∧ D < 12 ∧ L < 2 ^ b ∧ F < 2 ^ D := by
  have hb : t.lit = 0 ∧ 3 ≤ t.len ∧ t.len ≤ 257 ∧ 1 ≤ t.dist ∧ t.dist ≤ 4095 := by
    unfold mayB at hm; rw [if_neg hl] at hm; exact of_decide_eq_true hm
  have a1 := Toks.lg_nonneg (t.len - 2)
  have a2 := Toks.lg_lt (t.len - 2) 8 (by omega) (by omega) (by rw [Toks.pw_8]; omega)
  have a3 := Toks.pw_lg_le (t.len - 2) (by omega)
  have a4 := Toks.lt_pw_lg (t.len - 2) (by omega)
  have b1 := Toks.lg_nonneg t.dist
  have b2 := Toks.lg_lt t.dist 12 (by omega) (by omega) (by rw [Toks.pw_12]; omega)
  have b3 := Toks.pw_lg_le t.dist (by omega)
  have b4 := Toks.lt_pw_lg t.dist (by omega)
  refine ⟨(lg (t.len - 2)).toNat, (t.len - 2 - pw (lg (t.len - 2))).toNat, (lg t.dist).toNat, (t.dist - pw (lg t.dist)).toNat, ?_, by omega, by omega, ?_, ?_⟩
  · unfold splitP
    rw [if_pos hm, if_neg hl]
    congr 1 <;> omega
  · have : pw (lg (t.len - 2)) = ((2 ^ (lg (t.len - 2)).toNat : Nat) : Int) := rfl
    omega
  · have : pw (lg t.dist) = ((2 ^ (lg t.dist).toNat : Nat) : Int) := rfl
    omega
theorem piece_lit {t : Tk} (h0 : 0 ≤ t.lit) (hl : t.len = 0) (hm : mayB t.lit t.len t.dist = true) : splitP t = ⟨((t.lit.toNat : Nat) : Int), 0, 0, 0⟩ := by
  unfold splitP
  rw [if_pos hm, if_pos hl, Int.toNat_of_nonneg h0]
def tokB (ls lf : List Nat) (t : Tk) : List Bool :=
  word ls (splitP t).sym.toNat ++ if t.len = 0 then [] else
    msb (splitP t).len.toNat ((splitP t).sym.toNat - 257) ((splitP t).sym.toNat - 257) ++ (word lf (splitP t).dist.toNat ++ msb (splitP t).far.toNat (splitP t).dist.toNat (splitP t).dist.toNat)
def natL (l : List Int) : List Nat := l.map Int.toNat
theorem natL_length (l : List Int) : (natL l).length = l.length := by simp [natL]
theorem natL_getD (l : List Int) (i : Nat) : (natL l).getD i 0 = (l.getD i 0).toNat := by
  unfold natL
  rw [List.getD_eq_getElem?_getD, List.getD_eq_getElem?_getD, List.getElem?_map]
  cases l[i]? <;> rfl
def ksS (ts : List Tk) : List Nat := natL (Toks.symsOf ts)
def ksF (ts : List Tk) : List Nat := natL (Toks.farsOf ts)
theorem ksS_length (ts : List Tk) : (ksS ts).length = 265 := by
  unfold ksS Toks.symsOf
  rw [natL_length, Toks.bump_length, (Toks.cnts_length ts).1]
theorem ksF_length (ts : List Tk) : (ksF ts).length = 12 := by
  unfold ksF Toks.farsOf
  rw [natL_length, (Toks.cnts_length ts).2]
def lsS (ts : List Tk) : List Nat := lensO (ksS ts) 15
def lsF (ts : List Tk) : List Nat := lensO (ksF ts) 15
theorem lsS_length (ts : List Tk) : (lsS ts).length = 265 := by
  unfold lsS
  rw [lensO_length (lens15_E (by rw [ksS_length]; omega)), ksS_length]
theorem lsF_length (ts : List Tk) : (lsF ts).length = 12 := by
  unfold lsF
  rw [lensO_length (lens15_E (by rw [ksF_length]; omega)), ksF_length]
theorem lsS_ok (ts : List Tk) : okB (lsS ts) = true := okB_lens (lens15_E (by rw [ksS_length]; omega)) (by rw [ksS_length]; omega)
theorem lsF_ok (ts : List Tk) : okB (lsF ts) = true := okB_lens (lens15_E (by rw [ksF_length]; omega)) (by rw [ksF_length]; omega)
theorem syms_pos {ts : List Tk} {t : Tk} (h : t ∈ ts) (hs : (splitP t).sym.toNat < 265) : (lsS ts).getD (splitP t).sym.toNat 0 ≠ 0 := by
  have h1 := (fold_in ts (List.replicate 265 0, List.replicate 12 0) h).1 (by show _ < (List.replicate 265 (0 : Int)).length; rw [List.length_replicate]; exact hs)
  have h2 := bump_ge (cnts ts).1 256 (splitP t).sym.toNat
  refine lens15_in (by rw [ksS_length]; omega) (by rw [ksS_length]; exact hs) ?_
  unfold ksS
  rw [natL_getD]
  have h3 : (List.replicate 265 (0 : Int)).getD (splitP t).sym.toNat 0 = 0 := by
    simp only [List.getD_eq_getElem?_getD, List.getElem?_replicate]
    split <;> rfl
  change _ ≤ (cnts ts).1.getD _ 0 at h1
  simp only [h3] at h1
  show (Toks.bump (cnts ts).1 256 |>.getD _ 0).toNat ≠ 0
  omega
theorem end_pos (ts : List Tk) : (lsS ts).getD 256 0 ≠ 0 := by
  have h2 : (bump (cnts ts).1 256).getD 256 0 = (cnts ts).1.getD 256 0 + 1 := bump_at (by rw [(Toks.cnts_length ts).1]; omega)
  have h1 := (Toks.cnts_within ts).1 256
  refine lens15_in (by rw [ksS_length]; omega) (by rw [ksS_length]; omega) ?_
  unfold ksS
  rw [natL_getD]
  show (Toks.bump (cnts ts).1 256 |>.getD _ 0).toNat ≠ 0
  omega
theorem fars_pos {ts : List Tk} {t : Tk} (h : t ∈ ts) (h0 : t.len ≠ 0) (hs : (splitP t).dist.toNat < 12) : (lsF ts).getD (splitP t).dist.toNat 0 ≠ 0 := by
  have h1 := (fold_in ts (List.replicate 265 0, List.replicate 12 0) h).2 h0 (by show _ < (List.replicate 12 (0 : Int)).length; rw [List.length_replicate]; exact hs)
  refine lens15_in (by rw [ksF_length]; omega) (by rw [ksF_length]; exact hs) ?_
  unfold ksF
  rw [natL_getD]
  have h3 : (List.replicate 12 (0 : Int)).getD (splitP t).dist.toNat 0 = 0 := by
    simp only [List.getD_eq_getElem?_getD, List.getElem?_replicate]
    split <;> rfl
  change _ ≤ (cnts ts).2.getD _ 0 at h1
  simp only [h3] at h1
  show ((cnts ts).2.getD _ 0).toNat ≠ 0
  omega
def writeBits (ts : List Tk) : List Bool := wrBits (lsS ts) ++ wrBits (lsF ts) ++ (ts.flatMap (tokB (lsS ts) (lsF ts)) ++ word (lsS ts) 256)
def writeE (ts : List Tk) : Int := if 32768 < ts.length then 6 else if allOk ts = true then 0 else 7
def writeO (ts : List Tk) : List Nat := if writeE ts = 0 then bytesOf (writeBits ts) else []
theorem wrGo_length (ls : List Nat) : ∀ f i, (wrGo ls f i).length ≤ 10 * (ls.length - i)
  | 0, i => by simp [wrGo]
  | f + 1, i => by
    unfold wrGo
    by_cases hlt : i < ls.length
    · rw [if_pos hlt]
      by_cases h0 : ls.getD i 0 = 0
      · have hx : ls[i]? = some 0 := by rw [List.getD_eq_getElem?_getD, List.getElem?_eq_getElem hlt] at h0; rw [List.getElem?_eq_getElem hlt]; exact congrArg some h0
        have r1 : 1 ≤ zrun ls i 64 := by have := zrun_pos hx 63; show 1 ≤ zrun ls i (63 + 1); omega
        have rf := zrun_fits ls 64 i (by omega)
        have ih := wrGo_length ls f (i + zrun ls i 64)
        rw [if_pos h0, List.length_append, List.length_append, msb_length, msb_length]
        omega
      · have ih := wrGo_length ls f (i + 1)
        rw [if_neg h0, List.length_append, msb_length]
        omega
    · rw [if_neg hlt]; simp
theorem wrBits_length (ls : List Nat) : (wrBits ls).length ≤ 10 * ls.length := wrGo_length ls ls.length 0
theorem getD_le {ls : List Nat} (h : ∀ x ∈ ls, x ≤ 15) (s : Nat) : ls.getD s 0 ≤ 15 := by
  rw [List.getD_eq_getElem?_getD]
  cases hx : ls[s]? with
  | none => simp
  | some x => simpa using h x (List.mem_of_getElem? hx)
theorem tokB_length {ls lf : List Nat} (h : ∀ x ∈ ls, x ≤ 15) (h' : ∀ x ∈ lf, x ≤ 15) {t : Tk} (hm : mayB t.lit t.len t.dist = true) : (tokB ls lf t).length ≤ 48 := by
  unfold tokB
  have h1 := getD_le h (splitP t).sym.toNat
  have h2 := getD_le h' (splitP t).dist.toNat
  by_cases h0 : t.len = 0
  · rw [if_pos h0, List.append_nil, word_length]; omega
  · obtain ⟨b, L, D, F, e, hb, hD, hL, hF⟩ := piece_nat h0 hm
    rw [if_neg h0, List.length_append, List.length_append, List.length_append, word_length, word_length, msb_length, msb_length]
    rw [e] at h1 h2 ⊢
    simp only [Int.toNat_natCast] at h1 h2 ⊢
    omega
theorem toks_length {ls lf : List Nat} (h : ∀ x ∈ ls, x ≤ 15) (h' : ∀ x ∈ lf, x ≤ 15) : ∀ {ts : List Tk}, allOk ts = true → (ts.flatMap (tokB ls lf)).length ≤ 48 * ts.length
  | [], _ => by simp
  | t :: ts, hm => by
    unfold allOk at hm
    rw [List.all_cons, Bool.and_eq_true] at hm
    have h1 := tokB_length h h' hm.1
    have h2 := toks_length h h' (ts := ts) hm.2
    rw [List.flatMap_cons, List.length_append, List.length_cons]
    omega
theorem toks_snoc {ls lf : List Nat} {ts : List Tk} {k : Nat} (h : k < ts.length) : (ts.take (k + 1)).flatMap (tokB ls lf) = (ts.take k).flatMap (tokB ls lf) ++ tokB ls lf ts[k] := by
  rw [List.take_succ_eq_append_getElem h, List.flatMap_append]
  simp
end Go.Proofs.YtcafklmbehoggaaGreatDoor.TW
namespace Go.Proofs.YtcafklmbehoggaaGreatDoor.Huff
open Go.RowKit Go.Proofs.YtcafklmbehoggaaGreatDoor.Mem Go.Proofs.YtcafklmbehoggaaGreatDoor.Canon Go.Proofs.YtcafklmbehoggaaGreatDoor.Own
theorem Wr.stepK {K L : Nat → Prop} {w w' : World} {base g : Nat} {t : TypeId} {rest : List Value} {bs : List Bool} {v : Value} (h : Wr K w base g t rest bs v) (hb : Below w.heap.size w w') (hL : ∀ k, L k → K k ∨ w.heap.size ≤ k ∧ k < w'.heap.size) : Wr L w' base g t rest bs v := by
  have hv : ∀ x, v.ownBlock = some x → x < w.heap.size := fun x hx => (World.ownsRow.lt h.own x hx).2
  refine ⟨h.blk.step hb, own_kept h.own (fun x hx => hb.block x (hv x hx)), h.ne, Nat.le_trans h.base hb.size, fun e => ?_, fun x hx e => ?_, fun k e => ?_⟩
  · rcases hL _ e with e | e
    · exact h.kg e
    · have := h.blk.lt; omega
  · rcases hL _ e with e | e
    · exact h.kv x hx e
    · have := hv x hx; omega
  · rcases hL _ e with e | e
    · have := h.kK k e; have := hb.size; omega
    · exact e.2
theorem Wr.weak {K L : Nat → Prop} {w : World} {base g : Nat} {t : TypeId} {rest : List Value} {bs : List Bool} {v : Value} (h : Wr K w base g t rest bs v) (hl : ∀ k, L k → K k) : Wr L w base g t rest bs v :=
  ⟨h.blk, h.own, h.ne, h.base, fun e => h.kg (hl _ e), fun x hx e => h.kv x hx (hl _ e), fun k e => h.kK k (hl k e)⟩
theorem kept_weak {K L : Nat → Prop} {a w : World} (h : Kept K a w) (hl : ∀ k, L k → K k) : Kept L a w := ⟨h.os, h.tape, h.output, h.size, fun k e => h.block k (hl k e)⟩
theorem rowIn_of {w : World} {lo B n s : Nat} {A : Option Addr} {f : Nat → Nat → Value} (h : Row w B A n s f) (hnew : 0 < n → ∀ p, A = some p → lo ≤ p.block) : RowIn w lo B A n s f := fun hn => by
  obtain ⟨b, off, e, hb, hc⟩ := h hn
  exact ⟨b, off, e, ⟨hnew hn _ e, hb⟩, hc⟩
def WcPost (K : Nat → Prop) (w : World) (base g : Nat) (t : TypeId) (rest : List Value) (bs : List Bool) (ls : List Nat) (e : Ending) (w' : World) : Prop :=
  ∃ gc lo v', e = .returned (.pointer (some ⟨gc, 0, none⟩)) ∧ w.heap.size ≤ lo ∧ Coder w' lo w'.heap.size gc ls ∧ Wr (fun x => K x ∨ lo ≤ x ∧ x < w'.heap.size) w' base g t rest bs v' ∧ Kept K w w'
set_option maxRecDepth 100000 in
theorem wcoder_any (K : Nat → Prop) (w : World) (g base : Nat) (t : TypeId) (rest : List Value) (v : Value) (bs : List Bool) (A : Option Addr) (n c : Nat) (ks : List Nat) (hn : ks.length = n) (hN : n ≤ 300) (h32 : ∀ x ∈ ks, x < 4294967296)
    (ha : Row w w.heap.size A n 1 (numF .u32 ks)) (hle : bs.length + 10 * n ≤ 5000000) (hW : Wr K w base g t rest bs v) :
    Calls Tryz.prog 191 #[.pointer (some ⟨g, 0, none⟩), .slice A n c] w (WcPost K w base g t rest (bs ++ wrBits (Lens.lensO ks 15)) (Lens.lensO ks 15)) := by
  have C1 := Lens.lens_new w A n c ks 15 hn (by omega) (by omega) (by omega) h32 ha
  unfold Lens.LensPostN at C1
  have hE := TW.lens15_E (ks := ks) (by omega)
  have hok := Lens.okB_lens hE (by omega)
  have hlen := Lens.lensO_length hE
  rw [hE, hlen, hn] at C1
  rw [hn] at hlen
  have HLE := Lib.hid hle
  have HW := Lib.hid hW
  generalize Lens.lensO ks 15 = ls at *
  have HL := Lib.hid hlen
  have HOK := Lib.hid hok
  have C1 := Lib.hid C1
  clear hn h32 ha hE hok hlen hle hW
  go_enter Tryz.func191, Tryz.ntmps191
  go_wp2_with fail
  refine C1.out.mono ?_
  rintro e w1 ⟨A1, c1, rfl, hrow, hwf, hb1, hnew⟩
  have z1 := hb1.size
  have hW1 := HW.out.stepK (L := fun x => K x ∨ w.heap.size ≤ x ∧ x < w1.heap.size) hb1 (fun k h => h)
  have hrin := rowIn_of hrow hnew
  have C2 := Lib.hid (cwrite_any (fun x => K x ∨ w.heap.size ≤ x ∧ x < w1.heap.size) w1 g base t rest v bs A1 n c1 ls HL.out (by omega) HOK.out (fun h0 p hp => by
    obtain ⟨b, off, e, hb, _⟩ := hrin h0
    rw [e] at hp
    cases hp
    exact .inr hb) hrow HLE.out hW1)
  have HRIN := Lib.hid hrin
  have HWF := Lib.hid hwf
  have HB1 := Lib.hid hb1
  clear hrow hnew hb1 hW1 hrin hwf C1
  go_wp2_with fail
  refine C2.out.mono ?_
  rintro e w2 ⟨rfl, v2, hW2, hk2⟩
  have z2 := hk2.size
  have hrin2 : RowIn w2 w.heap.size w1.heap.size A1 n 1 (numF .u8 ls) := HRIN.out.keep (fun p h1 h2 => World.cell?_of_block (hk2.block p.block (.inr ⟨h1, h2⟩)))
  have C3 := new_any w2 A1 n c1 ls HL.out HOK.out HWF.out.1 (hrin2.row.mono z2)
  unfold NewPost at C3
  have C3 := Lib.hid C3
  have HW2 := Lib.hid hW2
  have HK2 := Lib.hid hk2
  clear hW2 hk2 hrin2 C2 HRIN HWF
  go_wp2_with fail
  refine C3.out.mono ?_
  rintro e w3 ⟨gc, rfl, hC, hb3⟩
  have HC := Lib.hid hC
  have HB3 := Lib.hid hb3
  clear hC hb3 C3
  go_wp2_with fail
  go_ret
  refine ⟨gc, w2.heap.size, v2, rfl, by omega, HC.out, ?_, ?_⟩
  · refine HW2.out.stepK HB3.out (fun k h => ?_)
    rcases h with h | h
    · exact .inl (.inl h)
    · exact .inr h
  · have hK1 : Kept K w w1 := Kept.of_below HB1.out fun k h => HW.out.kK k h
    exact (hK1.trans (kept_weak HK2.out fun k h => .inl h)).trans (Kept.of_below HB3.out fun k h => by
      have := HW2.out.kK k (.inl h)
      exact this)
end Go.Proofs.YtcafklmbehoggaaGreatDoor.Huff
namespace Go.Proofs.YtcafklmbehoggaaGreatDoor.Huff
open Go.RowKit Go.Proofs.YtcafklmbehoggaaGreatDoor.Mem Go.Proofs.YtcafklmbehoggaaGreatDoor.Canon Go.Proofs.YtcafklmbehoggaaGreatDoor.Own
open Go.Proofs.YtcafklmbehoggaaGreatDoor.Toks (Tk Pc splitP splitE mayB toks_split)
theorem lenAt_nat {ls : List Nat} {s : Nat} (h : ls.getD s 0 ≠ 0) : lenAt ls (s : Int) ≠ 0 := by
  unfold lenAt
  rw [if_neg (by omega), Int.toNat_natCast]
  exact h
def WtPost (K : Nat → Prop) (w : World) (base g : Nat) (t : TypeId) (rest : List Value) (bs : List Bool) (e : Ending) (w' : World) : Prop :=
  e = .returned (.tuple #[]) ∧ ∃ v', Wr K w' base g t rest bs v' ∧ Kept K w w'
set_option maxHeartbeats 1000000 in
set_option maxRecDepth 100000 in
theorem wtoken_any (K : Nat → Prop) (w : World) (g base gs gf l1 B1 l2 B2 : Nat) (ls lf : List Nat) (bs : List Bool) (v : Value) (tk : Tk) (hlit : 0 ≤ tk.lit ∧ tk.lit ≤ 255) (hm : mayB tk.lit tk.len tk.dist = true)
    (hok : okB ls = true) (hCs : Coder w l1 B1 gs ls) (hKs : ∀ k, l1 ≤ k → k < B1 → K k) (hokf : okB lf = true) (hCf : Coder w l2 B2 gf lf) (hKf : ∀ k, l2 ≤ k → k < B2 → K k)
    (h1 : ls.getD (splitP tk).sym.toNat 0 ≠ 0) (h2 : tk.len ≠ 0 → lf.getD (splitP tk).dist.toNat 0 ≠ 0) (hle : bs.length + 60 ≤ 5000000)
    (hW : Wr K w base g 248 [.pointer (some ⟨gs, 0, none⟩), .pointer (some ⟨gf, 0, none⟩)] bs v) :
    Calls Tryz.prog 192 #[.pointer (some ⟨g, 0, none⟩), tk.val] w (WtPost K w base g 248 [.pointer (some ⟨gs, 0, none⟩), .pointer (some ⟨gf, 0, none⟩)] (bs ++ TW.tokB ls lf tk)) := by
  have C1 := fun w => toks_split tk w hlit.1 hlit.2
  have hsE : splitE tk = 0 := by unfold splitE; rw [if_pos hm]
  have hcs : ∀ x, K x → x < w.heap.size := hW.kK
  rw [hsE] at C1
  by_cases h0 : tk.len = 0
  · have hp := TW.piece_lit hlit.1 h0 hm
    have hb : TW.tokB ls lf tk = word ls tk.lit.toNat := by unfold TW.tokB; rw [if_pos h0, List.append_nil, hp, Int.toNat_natCast]
    rw [hp] at C1 h1
    rw [hb]
    rw [Int.toNat_natCast] at h1
    have hS : tk.lit.toNat < 256 := by omega
    generalize tk.lit.toNat = S at *
    rw [Toks.Pc.val_mk] at C1
    obtain ⟨t1, t2, t3⟩ := tk
    rw [Toks.Tk.val_mk] at *
    have C1 := Lib.hid C1
    have HW := Lib.hid hW
    have HCS := Lib.hid hCs
    have HKS := Lib.hid hKs
    have HOK := Lib.hid hok
    have H1 := Lib.hid (lenAt_nat h1)
    have HKK := Lib.hid hcs
    have g1 : decide ((S : Int) < 256) = true := by simp; omega
    have g2 : decide (S < 256) = true := by simpa using hS
    clear hlit hm hok hCs hKs hokf hCf hKf h1 h2 hW hsE h0 hp hb hcs
    go_enter Tryz.func192, Tryz.ntmps192
    go_wp2_with fail
    refine (C1.out _).mono ?_
    rintro e w1 ⟨rfl, hb1⟩
    have z1 := hb1.size
    simp at z1
    go_upto_region 2 with fail
    have hbel : Below w.heap.size w (w1.alloc (.cells #[.int .i64 S, .int .i64 0, .int .i64 0, .int .i64 0] 279)) := by (repeat (first | (with_reducible exact Below.refl _ _) | (with_reducible assumption) | (with_reducible refine Below.drew ?_) | (with_reducible refine below_drewN ?_ _) | ((with_reducible refine bel_set ?_ ?_); (focus (first | (simp; done) | (simp; omega) | omega | (simp at *; omega)))) | (with_reducible refine bel_alloc0 ?_) | (with_reducible refine bel_step0 (by assumption) ?_) | ((with_reducible refine bel_alloc ?_ ?_); (focus (first | (simp; done) | (simp; omega) | omega | (simp at *; omega)))) | ((with_reducible refine bel_step (by assumption) ?_ ?_); (focus (first | (simp; done) | (simp; omega) | omega | (simp at *; omega))))))
    have blkp : Blk (w1.alloc (.cells #[.int .i64 S, .int .i64 0, .int .i64 0, .int .i64 0] 279)) w1.heap.size 279 #[.int .i64 S, .int .i64 0, .int .i64 0, .int .i64 0] := Blk.made _ _ _
    generalize w1.alloc (.cells #[.int .i64 S, .int .i64 0, .int .i64 0, .int .i64 0] 279) = w2 at *
    have z2 := blkp.lt
    have hW2 := HW.out.stepK (L := fun x => K x ∨ w.heap.size ≤ x ∧ x < w2.heap.size) hbel (fun k h => h)
    have hC2 := HCS.out.keep (w' := w2) (fun b h1 h2 => hbel.block b (HKK.out b (HKS.out b h1 h2)))
    have C2 := Lib.hid (cput_any (fun x => K x ∨ w.heap.size ≤ x ∧ x < w2.heap.size) w2.drew l1 B1 gs ls g base 248 [.pointer (some ⟨gs, 0, none⟩), .pointer (some ⟨gf, 0, none⟩)] v bs (S : Int) (by omega) HOK.out hC2.drew (fun k h1 h2 => .inl (HKS.out k h1 h2)) H1.out (by omega) hW2.drew)
    rw [Int.toNat_natCast] at C2
    have d0 := hW2.blk.cell 2
    have p0 := blkp.cell 0
    simp at d0 p0
    generalize w1.heap.size = pb at *
    have KP : Hid (K pb ∨ w.heap.size ≤ pb ∧ pb < w2.heap.size) := .inr ⟨by omega, z2⟩
    have HBEL := Lib.hid hbel
    clear hbel blkp hW2 hC2 hb1 C1 HW HCS
    go_region_held3 (fun wx => wx.cell? ⟨g, 2, none⟩ = some (.pointer (some ⟨gs, 0, none⟩)) ∧ wx.cell? ⟨pb, 0, none⟩ = some (.int .i64 S)) (first | exact ⟨d0, p0⟩ | exact ⟨k0, k1⟩) (first | (go_at_call 193; (with_reducible refine C2.out.mono ?_); rintro e w' ⟨rfl, v2, hW3, hk3⟩; have k0 : w'.cell? ⟨g, 2, none⟩ = some (.pointer (some ⟨gs, 0, none⟩)) := hW3.blk.cell 2; have k1 : w'.cell? ⟨pb, 0, none⟩ = some (.int .i64 S) := (World.cell?_of_block (a := ⟨pb, 0, none⟩) (hk3.block pb KP.out)).trans p0))
    have HW3 := Lib.hid hW3
    have HK3 := Lib.hid hk3
    clear hW3 hk3 C2
    go_wp2_with fail
    refine bodyPost_end (results_none rfl _ _ _) rfl ?_
    exact ⟨rfl, v2, HW3.out.weak (fun k h => .inl h), (Kept.of_below HBEL.out HKK.out).drew.trans (kept_weak HK3.out (fun k h => .inl h))⟩
  · obtain ⟨b, L, D, F, hp, hb8, hD12, hL, hF⟩ := TW.piece_nat h0 hm
    have hb : TW.tokB ls lf tk = word ls (257 + b) ++ (msb L b b ++ (word lf D ++ msb F D D)) := by
      unfold TW.tokB
      rw [if_neg h0, hp]
      simp only [Int.toNat_natCast, Nat.add_sub_cancel_left]
    replace h2 := h2 h0
    rw [hp] at C1 h1 h2
    rw [hb, ← List.append_assoc, ← List.append_assoc, ← List.append_assoc]
    simp only [Int.toNat_natCast] at h1 h2
    obtain ⟨_, hsm, _⟩ := ok_parts hok
    obtain ⟨_, hsmf, _⟩ := ok_parts hokf
    have hl1 : (word ls (257 + b)).length ≤ 15 := by rw [word_length]; exact TW.getD_le hsm _
    have hl2 : (word lf D).length ≤ 15 := by rw [word_length]; exact TW.getD_le hsmf _
    obtain ⟨S, hS⟩ : ∃ S, S = 257 + b := ⟨_, rfl⟩
    rw [← hS] at C1 h1 hl1
    rw [← hS]
    have x1 : IntKind.i64.wrap ((S : Int) - 257) = (b : Int) := by rw [IntKind.wrap_i64]; omega
    have x2 : IntKind.u64.wrap (L : Int) = (L : Int) := by
      have : 2 ^ b ≤ 2 ^ 8 := Nat.pow_le_pow_right (by omega) (by omega)
      rw [IntKind.wrap_u64]; omega
    have x3 : IntKind.u64.wrap (F : Int) = (F : Int) := by
      have : 2 ^ D ≤ 2 ^ 12 := Nat.pow_le_pow_right (by omega) (by omega)
      rw [IntKind.wrap_u64]; omega
    rw [Toks.Pc.val_mk] at C1
    obtain ⟨t1, t2, t3⟩ := tk
    rw [Toks.Tk.val_mk] at *
    have C1 := Lib.hid C1
    have HW := Lib.hid hW
    have HCS := Lib.hid hCs
    have HKS := Lib.hid hKs
    have HOK := Lib.hid hok
    have HCF := Lib.hid hCf
    have HKF := Lib.hid hKf
    have HOKF := Lib.hid hokf
    have H1 := Lib.hid (lenAt_nat h1)
    have H2 := Lib.hid (lenAt_nat h2)
    have HKK := Lib.hid hcs
    have HL := Lib.hid hL
    have HF := Lib.hid hF
    have g1 : decide ((S : Int) < 256) = false := by simp; omega
    have g2 : decide (S < 256) = false := by simp; omega
    have hSb : S ≤ 264 := by omega
    clear hlit hm hok hCs hKs hokf hCf hKf h1 h2 hW hsE h0 hp hb hcs hL hF hS hsm hsmf
    go_enter Tryz.func192, Tryz.ntmps192
    go_wp2_with fail
    refine (C1.out _).mono ?_
    rintro e w1 ⟨rfl, hb1⟩
    have z1 := hb1.size
    simp at z1
    go_upto_region 2 with fail
    have hbel : Below w.heap.size w (w1.alloc (.cells #[.int .i64 S, .int .i64 L, .int .i64 D, .int .i64 F] 279)) := by (repeat (first | (with_reducible exact Below.refl _ _) | (with_reducible assumption) | (with_reducible refine Below.drew ?_) | (with_reducible refine below_drewN ?_ _) | ((with_reducible refine bel_set ?_ ?_); (focus (first | (simp; done) | (simp; omega) | omega | (simp at *; omega)))) | (with_reducible refine bel_alloc0 ?_) | (with_reducible refine bel_step0 (by assumption) ?_) | ((with_reducible refine bel_alloc ?_ ?_); (focus (first | (simp; done) | (simp; omega) | omega | (simp at *; omega)))) | ((with_reducible refine bel_step (by assumption) ?_ ?_); (focus (first | (simp; done) | (simp; omega) | omega | (simp at *; omega))))))
    have blkp : Blk (w1.alloc (.cells #[.int .i64 S, .int .i64 L, .int .i64 D, .int .i64 F] 279)) w1.heap.size 279 #[.int .i64 S, .int .i64 L, .int .i64 D, .int .i64 F] := Blk.made _ _ _
    generalize w1.alloc (.cells #[.int .i64 S, .int .i64 L, .int .i64 D, .int .i64 F] 279) = w2 at *
    have z2 := blkp.lt
    obtain ⟨M, hM⟩ : ∃ M : Nat → Prop, M = fun x => K x ∨ w.heap.size ≤ x ∧ x < w2.heap.size := ⟨_, rfl⟩
    have hW2 := HW.out.stepK (L := M) hbel (fun k h => by rw [hM] at h; exact h)
    have hC2 : Coder w2 l1 B1 gs ls := HCS.out.keep (fun b h1 h2 => hbel.block b (HKK.out b (HKS.out b h1 h2)))
    have hF2 : Coder w2 l2 B2 gf lf := HCF.out.keep (fun b h1 h2 => hbel.block b (HKK.out b (HKF.out b h1 h2)))
    have hMs : ∀ k, l1 ≤ k → k < B1 → M k := fun k h1 h2 => by rw [hM]; exact .inl (HKS.out k h1 h2)
    have hMf : ∀ k, l2 ≤ k → k < B2 → M k := fun k h1 h2 => by rw [hM]; exact .inl (HKF.out k h1 h2)
    have hMK : ∀ k, K k → M k := fun k h => by rw [hM]; exact .inl h
    have C2 := Lib.hid (cput_any M w2.drew l1 B1 gs ls g base 248 [.pointer (some ⟨gs, 0, none⟩), .pointer (some ⟨gf, 0, none⟩)] v bs (S : Int) (by omega) HOK.out hC2.drew hMs H1.out (by omega) hW2.drew)
    rw [Int.toNat_natCast] at C2
    have C4 := fun wx vx h => put_any M wx g base 248 [.pointer (some ⟨gs, 0, none⟩), .pointer (some ⟨gf, 0, none⟩)] vx (bs ++ word ls S) L b HL.out (by omega) (by rw [List.length_append]; omega) h
    have C5 := fun wx vx hc h => cput_any M wx l2 B2 gf lf g base 248 [.pointer (some ⟨gs, 0, none⟩), .pointer (some ⟨gf, 0, none⟩)] vx (bs ++ word ls S ++ msb L b b) (D : Int) (by omega) HOKF.out hc hMf H2.out (by simp only [List.length_append, msb_length]; omega) h
    have C6 := fun wx vx h => put_any M wx g base 248 [.pointer (some ⟨gs, 0, none⟩), .pointer (some ⟨gf, 0, none⟩)] vx (bs ++ word ls S ++ msb L b b ++ word lf D) F D HF.out (by omega) (by simp only [List.length_append, msb_length]; omega) h
    rw [← x1, ← x2] at C4
    rw [← x3] at C6
    rw [Int.toNat_natCast] at C5
    have C4 := Lib.hid C4
    have C5 := Lib.hid C5
    have C6 := Lib.hid C6
    have d0 := hW2.blk.cell 2
    have p0 := blkp.cell 0
    have p1 := blkp.cell 1
    have p2 := blkp.cell 2
    have p3 := blkp.cell 3
    simp at d0 p0 p1 p2 p3
    generalize w1.heap.size = pb at *
    have KP : Hid (M pb) := by show M pb; rw [hM]; exact .inr ⟨by omega, z2⟩
    have HBEL := Lib.hid hbel
    have HMS := Lib.hid hMs
    have HMF := Lib.hid hMf
    have HMK := Lib.hid hMK
    have HF2 := Lib.hid hF2
    clear hbel blkp hW2 hC2 hb1 C1 HW HCS hM hMs hMf hMK hF2 x1 x2 x3
    go_region_held3 (fun wx => wx.cell? ⟨g, 2, none⟩ = some (.pointer (some ⟨gs, 0, none⟩)) ∧ wx.cell? ⟨pb, 0, none⟩ = some (.int .i64 S)) (first | exact ⟨d0, p0⟩ | exact ⟨k0, k1⟩) (first | (go_at_call 193; (with_reducible refine C2.out.mono ?_); rintro e w' ⟨rfl, v2, hW3, hk3⟩; have k0 : w'.cell? ⟨g, 2, none⟩ = some (.pointer (some ⟨gs, 0, none⟩)) := hW3.blk.cell 2; have k1 : w'.cell? ⟨pb, 0, none⟩ = some (.int .i64 S) := (World.cell?_of_block (a := ⟨pb, 0, none⟩) (hk3.block pb KP.out)).trans p0))
    have q1 : w'.cell? ⟨pb, 1, none⟩ = some (.int .i64 L) := (World.cell?_of_block (a := ⟨pb, 1, none⟩) (hk3.block pb KP.out)).trans p1
    have q2 : w'.cell? ⟨pb, 2, none⟩ = some (.int .i64 D) := (World.cell?_of_block (a := ⟨pb, 2, none⟩) (hk3.block pb KP.out)).trans p2
    have q3 : w'.cell? ⟨pb, 3, none⟩ = some (.int .i64 F) := (World.cell?_of_block (a := ⟨pb, 3, none⟩) (hk3.block pb KP.out)).trans p3
    have C4 := Lib.hid (C4.out w'.drew v2 hW3.drew)
    have HF3 : Hid (Coder w' l2 B2 gf lf) := HF2.out.drew.kept hk3 HMF.out
    have HK3 : Hid (Kept M w2 w') := (Kept.refl M w2).drew.trans hk3
    clear hW3 hk3 C2 HF2 d0 p0 p1 p2 p3
    go_upto_region 4 with fail
    go_region_held3 (fun wx => wx.cell? ⟨pb, 0, none⟩ = some (.int .i64 S) ∧ wx.cell? ⟨pb, 1, none⟩ = some (.int .i64 L)) (first | exact ⟨k1, q1⟩ | exact ⟨m0, m1⟩) (first | (go_at_call 145; (with_reducible refine C4.out.mono ?_); rintro e w4 ⟨rfl, v4, hW4, hk4⟩; have m0 : w4.cell? ⟨pb, 0, none⟩ = some (.int .i64 S) := (World.cell?_of_block (a := ⟨pb, 0, none⟩) (hk4.block pb KP.out)).trans k1; have m1 : w4.cell? ⟨pb, 1, none⟩ = some (.int .i64 L) := (World.cell?_of_block (a := ⟨pb, 1, none⟩) (hk4.block pb KP.out)).trans q1))
    have r2 : w4.cell? ⟨pb, 2, none⟩ = some (.int .i64 D) := (World.cell?_of_block (a := ⟨pb, 2, none⟩) (hk4.block pb KP.out)).trans q2
    have r3 : w4.cell? ⟨pb, 3, none⟩ = some (.int .i64 F) := (World.cell?_of_block (a := ⟨pb, 3, none⟩) (hk4.block pb KP.out)).trans q3
    have r1 : w4.cell? ⟨g, 3, none⟩ = some (.pointer (some ⟨gf, 0, none⟩)) := hW4.blk.cell 3
    have C5 := Lib.hid (C5.out w4.drew v4 (HF3.out.drew.kept hk4 HMF.out).drew hW4.drew)
    have HK4 : Hid (Kept M w2 w4) := HK3.out.drew.trans hk4
    clear hW4 hk4 C4 HF3 HK3 k0 k1 q1 q2 q3 m0 m1
    go_upto_region 5 with fail
    go_region_held3 (fun wx => wx.cell? ⟨g, 3, none⟩ = some (.pointer (some ⟨gf, 0, none⟩)) ∧ wx.cell? ⟨pb, 2, none⟩ = some (.int .i64 D)) (first | exact ⟨r1, r2⟩ | exact ⟨m0, m1⟩) (first | (go_at_call 193; (with_reducible refine C5.out.mono ?_); rintro e w5 ⟨rfl, v5, hW5, hk5⟩; have m0 : w5.cell? ⟨g, 3, none⟩ = some (.pointer (some ⟨gf, 0, none⟩)) := hW5.blk.cell 3; have m1 : w5.cell? ⟨pb, 2, none⟩ = some (.int .i64 D) := (World.cell?_of_block (a := ⟨pb, 2, none⟩) (hk5.block pb KP.out)).trans r2))
    have n3 : w5.cell? ⟨pb, 3, none⟩ = some (.int .i64 F) := (World.cell?_of_block (a := ⟨pb, 3, none⟩) (hk5.block pb KP.out)).trans r3
    have C6 := Lib.hid (C6.out w5.drew v5 hW5.drew)
    have HK5 : Hid (Kept M w2 w5) := HK4.out.drew.trans hk5
    clear hW5 hk5 C5 HK4 r1 r2 r3 m0
    go_upto_region 6 with fail
    go_region_held3 (fun wx => wx.cell? ⟨pb, 2, none⟩ = some (.int .i64 D) ∧ wx.cell? ⟨pb, 3, none⟩ = some (.int .i64 F)) (first | exact ⟨m1, n3⟩ | exact ⟨s0, s1⟩) (first | (go_at_call 145; (with_reducible refine C6.out.mono ?_); rintro e w6 ⟨rfl, v6, hW6, hk6⟩; have s0 : w6.cell? ⟨pb, 2, none⟩ = some (.int .i64 D) := (World.cell?_of_block (a := ⟨pb, 2, none⟩) (hk6.block pb KP.out)).trans m1; have s1 : w6.cell? ⟨pb, 3, none⟩ = some (.int .i64 F) := (World.cell?_of_block (a := ⟨pb, 3, none⟩) (hk6.block pb KP.out)).trans n3))
    have HW6 := Lib.hid hW6
    have HK6 : Hid (Kept M w2 w6) := HK5.out.drew.trans hk6
    clear hW6 hk6 C6 HK5 m1 n3 s0 s1
    go_wp2_with fail
    refine bodyPost_end (results_none rfl _ _ _) rfl ?_
    exact ⟨rfl, v6, HW6.out.weak HMK.out, (Kept.of_below HBEL.out HKK.out).trans (kept_weak HK6.out HMK.out)⟩
end Go.Proofs.YtcafklmbehoggaaGreatDoor.Huff
