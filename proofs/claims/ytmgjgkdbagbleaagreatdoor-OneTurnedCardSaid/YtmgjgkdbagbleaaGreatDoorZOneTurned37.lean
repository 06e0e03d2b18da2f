/-
  Plain: what toks.Write put is read.
-/
import Derived.Test.YtmgjgkdbagbleaaGreatDoorZOneTurned25
import Derived.Test.YtmgjgkdbagbleaaGreatDoorZOneTurned33
namespace Go.Proofs.YtmgjgkdbagbleaaGreatDoor.TW
open Go.Proofs.YtmgjgkdbagbleaaGreatDoor.Canon Go.Proofs.YtmgjgkdbagbleaaGreatDoor.Huff Go.Proofs.YtmgjgkdbagbleaaGreatDoor.Lens
open Go.Proofs.YtmgjgkdbagbleaaGreatDoor.Toks (Tk Pc splitP splitE mayB bump cntStep cnts allOk lg pw Within joinT joinE)
theorem accB_at {bs pre post : List Bool} {x n : Nat} (hx : x < 2 ^ n) (hb : ∀ i, bit bs i = bit (pre ++ (msb x n n ++ post)) i) : accB bs pre.length n = x := by
  rw [accB_congr hb, accB_msb x n hx _ pre post (by rw [List.append_assoc]) n (Nat.le_refl _), Nat.sub_self]
  simp
theorem zrun_zero {ls : List Nat} : ∀ (c i j : Nat), j < zrun ls i c → ls[i + j]? = some 0
  | 0, _, _, h => by simp [zrun] at h
  | c + 1, i, j, h => by
    unfold zrun at h
    split at h
    · rename_i h0
      cases j with
      | zero => exact h0
      | succ j =>
        have := zrun_zero (ls := ls) c (i + 1) j (by omega)
        rwa [show i + (j + 1) = i + 1 + j by omega]
    · omega
theorem zrun_end {ls : List Nat} : ∀ (c i : Nat), zrun ls i c < c → ls[i + zrun ls i c]? ≠ some 0
  | 0, _, h => by omega
  | c + 1, i, h => by
    unfold zrun at h ⊢
    split at h
    · rename_i h0
      rw [if_pos h0]
      have := zrun_end (ls := ls) c (i + 1) (by omega)
      rwa [show i + (zrun ls (i + 1) c + 1) = i + 1 + zrun ls (i + 1) c by omega]
    · rename_i h0
      rw [if_neg h0]
      simpa using h0
theorem take_zeros {ls : List Nat} {i : Nat} : ∀ {r : Nat}, (∀ j, j < r → ls[i + j]? = some 0) → ls.take (i + r) = ls.take i ++ List.replicate r 0
  | 0, _ => by simp
  | r + 1, h => by
    rw [show i + (r + 1) = i + r + 1 by omega, List.take_add_one, take_zeros fun j hj => h j (by omega), h r (by omega), List.append_assoc]
    simp [List.replicate_succ']
theorem readGo_wr {bs : List Bool} {ls : List Nat} (hok : okB ls = true) : ∀ (f i : Nat) (short : Bool) (pre post : List Bool) (F : Nat), i ≤ ls.length → ls.length ≤ i + f → f ≤ F → (short = true → ls[i]? ≠ some 0) →
    (∀ j, bit bs j = bit (pre ++ (wrGo ls f i ++ post)) j) → pre.length + (wrGo ls f i).length ≤ bs.length →
    readGo bs ls.length (F + 1) (ls.take i) short pre.length = (ls, 0, pre.length + (wrGo ls f i).length)
  | 0, i, short, pre, post, F, hi, hf, _, _, _, _ => by
    have e : ls.take i = ls := List.take_of_length_le (by omega)
    rw [readGo_end (by rw [e]; exact Nat.le_refl _), e, if_pos hok, wrGo]
    simp
  | f + 1, i, short, pre, post, F, hi, hf, hF, hsh, hb, hl => by
    obtain ⟨F, rfl⟩ : ∃ F', F = F' + 1 := ⟨F - 1, by omega⟩
    by_cases hlt : i < ls.length
    · have hlen : (ls.take i).length = i := by rw [List.length_take]; omega
      have hn : ¬ ls.length ≤ (ls.take i).length := by omega
      have hx : ls[i]? = some (ls.getD i 0) := by rw [List.getD_eq_getElem?_getD, List.getElem?_eq_getElem hlt]; rfl
      have hx15 := (ok_parts hok).2.1 _ (List.mem_of_getElem? hx)
      unfold wrGo at hb hl ⊢
      rw [if_pos hlt] at hb hl ⊢
      by_cases h0 : ls.getD i 0 = 0
      · rw [if_pos h0] at hb hl ⊢
        rw [h0] at hx
        have r1 := zrun_pos hx 63
        have r64 := zrun_le ls 64 i
        have rf := zrun_fits ls 64 i hi
        have rz := zrun_zero (ls := ls) 64 i
        have re := zrun_end (ls := ls) 64 i
        have r1' : 1 ≤ zrun ls i 64 := by show 1 ≤ zrun ls i (63 + 1); omega
        clear r1
        generalize zrun ls i 64 = r at *
        rw [List.length_append, List.length_append, msb_length, msb_length] at hl
        have a0 : accB bs pre.length 4 = 0 := accB_at (post := (msb (r - 1) 6 6 ++ wrGo ls f (i + r)) ++ post) (by decide) (fun j => by rw [hb j, List.append_assoc (msb 0 4 4)])
        have a1 : accB bs (pre.length + 4) 6 = r - 1 := by
          have h := accB_at (bs := bs) (pre := pre ++ msb 0 4 4) (post := wrGo ls f (i + r) ++ post) (x := r - 1) (n := 6) (by show r - 1 < 64; omega) (fun j => by rw [hb j]; simp [List.append_assoc])
          rwa [List.length_append, msb_length] at h
        have h3 : ¬ (short = true ∨ ls.length - (ls.take i).length ≤ accB bs (pre.length + 4) 6) := by
          rw [a1, hlen]
          rintro (h | h)
          · exact hsh h hx
          · omega
        rw [readGo_row hn (by omega) a0 h3, a1, Nat.sub_add_cancel r1', ← take_zeros rz]
        have ih := readGo_wr (bs := bs) hok f (i + r) (decide (r < 64)) (pre ++ (msb 0 4 4 ++ msb (r - 1) 6 6)) post F rf (by omega) (by omega) (fun h => re (by simpa using h)) (fun j => by rw [hb j]; simp [List.append_assoc])
          (by rw [List.length_append, List.length_append, msb_length, msb_length]; omega)
        rw [List.length_append, List.length_append, msb_length, msb_length] at ih
        rw [show pre.length + 4 + 6 = pre.length + (4 + 6) by omega, ih, List.length_append, List.length_append, msb_length, msb_length]
        congr 2
        omega
      · rw [if_neg h0] at hb hl ⊢
        rw [List.length_append, msb_length] at hl
        have a0 : accB bs pre.length 4 = ls.getD i 0 := accB_at (post := wrGo ls f (i + 1) ++ post) (by show _ < 16; omega) (fun j => by rw [hb j, List.append_assoc (msb _ 4 4)])
        have htk : ls.take i ++ [ls.getD i 0] = ls.take (i + 1) := by rw [List.take_add_one, hx]; rfl
        rw [readGo_one hn (by omega) (by rw [a0]; exact h0), a0, htk]
        have ih := readGo_wr (bs := bs) hok f (i + 1) false (pre ++ msb (ls.getD i 0) 4 4) post F (by omega) (by omega) (by omega) (fun h => by cases h) (fun j => by rw [hb j]; simp [List.append_assoc])
          (by rw [List.length_append, msb_length]; omega)
        rw [List.length_append, msb_length] at ih
        rw [ih, List.length_append, msb_length]
        congr 2
        omega
    · have e : ls.take i = ls := List.take_of_length_le (by omega)
      rw [wrGo_done ls (f + 1) i (by omega)]
      rw [readGo_end (by rw [e]; exact Nat.le_refl _), e, if_pos hok]
      simp
theorem readGo_bits {bs : List Bool} {ls : List Nat} (hok : okB ls = true) (pre post : List Bool) (hb : ∀ j, bit bs j = bit (pre ++ (wrBits ls ++ post)) j) (hl : pre.length + (wrBits ls).length ≤ bs.length) :
    readGo bs ls.length (ls.length + 1) [] false pre.length = (ls, 0, pre.length + (wrBits ls).length) := by
  have h := readGo_wr (bs := bs) hok ls.length 0 false pre post ls.length (by omega) (by omega) (Nat.le_refl _) (fun h => by cases h) hb hl
  rwa [List.take_zero] at h
set_option maxRecDepth 100000 in
theorem tokenR_tok {ls lf : List Nat} {bs : List Bool} {t : Tk} (hok : okB ls = true) (hokf : okB lf = true) (hlit : 0 ≤ t.lit ∧ t.lit ≤ 255) (hm : mayB t.lit t.len t.dist = true) (hS : ls.getD (splitP t).sym.toNat 0 ≠ 0)
    (hD : t.len ≠ 0 → lf.getD (splitP t).dist.toNat 0 ≠ 0) (pre post : List Bool) (hb : ∀ j, bit bs j = bit (pre ++ (tokB ls lf t ++ post)) j) (hl : pre.length + (tokB ls lf t).length ≤ bs.length) :
    tokenR ls lf bs pre.length = (t, true, 0, pre.length + (tokB ls lf t).length) := by
  have some_ : ∀ {l : List Nat} {s : Nat}, l.getD s 0 ≠ 0 → l[s]? = some (l.getD s 0) := by
    intro l s h
    rw [List.getD_eq_getElem?_getD] at h ⊢
    cases hx : l[s]? with
    | none => rw [hx] at h; exact absurd rfl h
    | some x => rfl
  by_cases h0 : t.len = 0
  · have hp := piece_lit hlit.1 h0 hm
    have hd : t.dist = 0 := by unfold mayB at hm; rw [if_pos h0] at hm; exact of_decide_eq_true hm
    unfold tokB at hb hl ⊢
    rw [if_pos h0, List.append_nil] at hb hl ⊢
    rw [hp] at hb hl hS ⊢
    simp only [Int.toNat_natCast] at hb hl hS ⊢
    have hg := getR_word hok (some_ hS) hS (bs := bs) pre post (fun i => by rw [hb i, List.append_assoc]) (by rw [word_length] at hl; exact hl)
    unfold tokenR
    rw [hg]
    simp only [ne_eq, not_true_eq_false, if_false]
    rw [if_neg (by omega), if_pos (by omega), word_length]
    obtain ⟨a, b, c⟩ := t
    simp only at h0 hd hlit ⊢
    subst h0 hd
    rw [Int.toNat_of_nonneg hlit.1]
  · obtain ⟨b, L, D, F, hp, hb8, hD12, hL, hF⟩ := piece_nat h0 hm
    have hj := Toks.join_split t hlit.1 (by omega) (by unfold splitE; rw [if_pos hm])
    have hD := hD h0
    unfold tokB at hb hl ⊢
    rw [if_neg h0] at hb hl ⊢
    rw [hp] at hb hl hS hD hj ⊢
    simp only [Int.toNat_natCast, Nat.add_sub_cancel_left] at hb hl hS hD hj ⊢
    simp only [List.length_append, word_length, msb_length] at hl ⊢
    have hg := getR_word hok (some_ hS) hS (bs := bs) pre (msb L b b ++ (word lf D ++ msb F D D) ++ post) (fun i => by rw [hb i]; simp [List.append_assoc]) (by omega)
    unfold tokenR
    rw [hg]
    simp only [ne_eq, not_true_eq_false, if_false]
    rw [if_neg (by omega), if_neg (by omega)]
    simp only [Int.toNat_natCast]
    have hm1 : matchR lf bs (257 + b) (pre.length + ls.getD (257 + b) 0) = (t, 0, pre.length + ls.getD (257 + b) 0 + b + lf.getD D 0 + D) := by
      have q1 : (pre ++ word ls (257 + b)).length = pre.length + ls.getD (257 + b) 0 := by rw [List.length_append, word_length]
      have q2 : (pre ++ (word ls (257 + b) ++ msb L b b)).length = pre.length + ls.getD (257 + b) 0 + b := by rw [List.length_append, List.length_append, word_length, msb_length]; omega
      have q3 : (pre ++ (word ls (257 + b) ++ (msb L b b ++ word lf D))).length = pre.length + ls.getD (257 + b) 0 + b + lf.getD D 0 := by rw [List.length_append, List.length_append, List.length_append, word_length, word_length, msb_length]; omega
      have a1 := accB_at (bs := bs) (pre := pre ++ word ls (257 + b)) (post := (word lf D ++ msb F D D) ++ post) (x := L) (n := b) hL (fun i => by rw [hb i]; simp [List.append_assoc])
      have a2 := getR_word hokf (some_ hD) hD (bs := bs) (pre ++ (word ls (257 + b) ++ msb L b b)) (msb F D D ++ post) (fun i => by rw [hb i]; simp [List.append_assoc]) (by rw [q2]; omega)
      have a3 := accB_at (bs := bs) (pre := pre ++ (word ls (257 + b) ++ (msb L b b ++ word lf D))) (post := post) (x := F) (n := D) hF (fun i => by rw [hb i]; simp [List.append_assoc])
      rw [q1] at a1
      rw [q2] at a2
      rw [q3] at a3
      unfold matchR
      simp only [Nat.add_sub_cancel_left]
      rw [if_neg (by omega), a1, a2]
      simp only [ne_eq, not_true_eq_false, if_false, Int.toNat_natCast]
      rw [if_neg (by omega), a3]
      simp only [Prod.mk.injEq]
      exact ⟨hj.2, hj.1, trivial⟩
    have hgen : ∀ m : Tk × Int × Nat, m = (t, 0, pre.length + ls.getD (257 + b) 0 + b + lf.getD D 0 + D) → (m.1, decide (m.2.1 = 0), m.2.1, m.2.2) = (t, true, (0 : Int), pre.length + (ls.getD (257 + b) 0 + (b + (lf.getD D 0 + D)))) := by
      rintro m rfl
      simp only [decide_true, Prod.mk.injEq, true_and]
      omega
    exact hgen _ hm1
theorem tokenR_end {ls lf : List Nat} {bs : List Bool} (hok : okB ls = true) (hS : ls.getD 256 0 ≠ 0) (pre post : List Bool) (hb : ∀ j, bit bs j = bit (pre ++ (word ls 256 ++ post)) j) (hl : pre.length + (word ls 256).length ≤ bs.length) :
    tokenR ls lf bs pre.length = (⟨0, 0, 0⟩, false, 0, pre.length + (word ls 256).length) := by
  have hs : ls[256]? = some (ls.getD 256 0) := by
    rw [List.getD_eq_getElem?_getD] at hS ⊢
    cases hx : ls[256]? with
    | none => rw [hx] at hS; exact absurd rfl hS
    | some x => rfl
  have hg := getR_word hok hs hS (bs := bs) pre post (fun i => by rw [hb i, List.append_assoc]) (by rw [word_length] at hl; exact hl)
  unfold tokenR
  rw [hg]
  simp only [ne_eq, not_true_eq_false, if_false]
  rw [if_pos (show ((256 : Nat) : Int) = 256 from rfl), word_length]
theorem sizeT_pos : ∀ ts : List Tk, 0 ≤ sizeT ts ∧ (ts.length : Int) ≤ sizeT ts
  | [] => ⟨by simp [sizeT], by simp [sizeT]⟩
  | t :: ts => by
    have := sizeT_pos ts
    rw [sizeT, List.length_cons]
    omega
theorem toksGo_all {ls lf : List Nat} {bs : List Bool} (hok : okB ls = true) (hokf : okB lf = true) (hE : ls.getD 256 0 ≠ 0) : ∀ (rest done : List Tk) (M : Int) (F : Nat) (pre : List Bool),
    (∀ t ∈ rest, (0 ≤ t.lit ∧ t.lit ≤ 255) ∧ mayB t.lit t.len t.dist = true ∧ ls.getD (splitP t).sym.toNat 0 ≠ 0 ∧ (t.len ≠ 0 → lf.getD (splitP t).dist.toNat 0 ≠ 0)) → 0 ≤ M → rest.length < F →
    (∀ j, bit bs j = bit (pre ++ (rest.flatMap (tokB ls lf) ++ word ls 256)) j) → (pre ++ (rest.flatMap (tokB ls lf) ++ word ls 256)).length ≤ bs.length → bs.length < (pre ++ (rest.flatMap (tokB ls lf) ++ word ls 256)).length + 8 →
    toksGo ls lf bs F M done pre.length = if sizeT rest ≤ M then (done ++ rest, 0) else ([], 6)
  | [], done, M, F, pre, _, hM, hF, hb, hl, hl2 => by
    obtain ⟨F, rfl⟩ : ∃ F', F = F' + 1 := ⟨F - 1, by simp at hF; omega⟩
    simp only [List.flatMap_nil, List.nil_append, List.length_append] at hb hl hl2
    have ht := tokenR_end (lf := lf) hok hE (bs := bs) pre [] (fun j => by rw [hb j, List.append_nil]) hl
    rw [toksGo, ht]
    simp only [ne_eq, not_true_eq_false, if_false, if_true]
    have hp : padE bs (pre.length + (word ls 256).length) = 0 := by
      unfold padE
      rw [if_neg]
      rw [not_or, Nat.not_le, Decidable.not_not]
      refine ⟨by omega, ?_⟩
      have : ∀ m, accB bs (pre.length + (word ls 256).length) m = 0 := by
        intro m
        induction m with
        | zero => rfl
        | succ m ih => rw [accB, ih, hb, bit_out (by rw [List.length_append]; omega)]
      exact this _
    rw [if_pos hp, if_pos (by simpa [sizeT] using hM), List.append_nil]
  | t :: rest, done, M, F, pre, hts, hM, hF, hb, hl, hl2 => by
    obtain ⟨F, rfl⟩ : ∃ F', F = F' + 1 := ⟨F - 1, by simp at hF; omega⟩
    obtain ⟨h1, h2, h3, h4⟩ := hts t (by simp)
    simp only [List.flatMap_cons, List.append_assoc] at hb
    simp only [List.flatMap_cons, List.length_append] at hl hl2
    have ht := tokenR_tok hok hokf h1 h2 h3 h4 (bs := bs) pre (rest.flatMap (tokB ls lf) ++ word ls 256) hb (by omega)
    have hsz := sizeT_pos rest
    rw [toksGo, ht]
    simp only [ne_eq, not_true_eq_false, if_false, Bool.true_eq_false]
    by_cases hlim : M - max 1 t.len < 0
    · rw [if_pos hlim, if_neg (by rw [sizeT]; omega)]
    · rw [if_neg hlim]
      have ih := toksGo_all (bs := bs) hok hokf hE rest (done ++ [t]) (M - max 1 t.len) F (pre ++ tokB ls lf t) (fun x hx => hts x (List.mem_cons_of_mem _ hx)) (by omega) (by simp at hF; omega)
        (fun j => by rw [hb j]; simp [List.append_assoc]) (by simp only [List.length_append]; omega) (by simp only [List.length_append]; omega)
      rw [List.length_append] at ih
      rw [ih, sizeT, List.append_assoc]
      by_cases hs : sizeT rest ≤ M - max 1 t.len
      · rw [if_pos hs, if_pos (by omega)]; rfl
      · rw [if_neg hs, if_neg (by omega)]
theorem flat_long {ls lf : List Nat} : ∀ {ts : List Tk}, (∀ t ∈ ts, ls.getD (splitP t).sym.toNat 0 ≠ 0) → ts.length ≤ (ts.flatMap (tokB ls lf)).length
  | [], _ => by simp
  | t :: ts, h => by
    have h1 := h t (by simp)
    have h2 := flat_long (ls := ls) (lf := lf) (ts := ts) (fun x hx => h x (List.mem_cons_of_mem _ hx))
    rw [List.flatMap_cons, List.length_append, List.length_cons]
    have h3 : ls.getD (splitP t).sym.toNat 0 ≤ (tokB ls lf t).length := by
      unfold tokB
      rw [List.length_append, word_length]
      exact Nat.le_add_right _ _
    omega
theorem read_write {ts : List Tk} (hlit : ∀ t ∈ ts, 0 ≤ t.lit ∧ t.lit ≤ 255) (hok : allOk ts = true) (most : Int) :
    readToks (bytesOf (writeBits ts)) most = if most < 0 then ([], 13) else if sizeT ts ≤ most then (ts, 0) else ([], 6) := by
  have hbit : ∀ j, bit (rbits (bytesOf (writeBits ts))) j = bit (writeBits ts) j := rbits_bytesOf_bit _
  have hlen1 : (writeBits ts).length ≤ (rbits (bytesOf (writeBits ts))).length := by rw [rbits_length, bytesOf_length]; omega
  have hlen2 : (rbits (bytesOf (writeBits ts))).length < (writeBits ts).length + 8 := by rw [rbits_length, bytesOf_length]; omega
  have hts : ∀ t ∈ ts, (0 ≤ t.lit ∧ t.lit ≤ 255) ∧ mayB t.lit t.len t.dist = true ∧ (lsS ts).getD (splitP t).sym.toNat 0 ≠ 0 ∧ (t.len ≠ 0 → (lsF ts).getD (splitP t).dist.toNat 0 ≠ 0) := by
    intro t ht
    unfold allOk at hok
    have hm := List.all_eq_true.1 hok t ht
    obtain ⟨S, D, L, F, hsp, hS, hD, _⟩ := Toks.sym_nat t (hlit t ht).1 (hlit t ht).2 hm
    have e1 : (splitP t).sym.toNat = S := by rw [hsp]; rfl
    have e2 : (splitP t).dist.toNat = D := by rw [hsp]; rfl
    exact ⟨hlit t ht, hm, syms_pos ht (by omega), fun h0 => fars_pos ht h0 (by omega)⟩
  have hlong := flat_long (ls := lsS ts) (lf := lsF ts) (fun t ht => (hts t ht).2.2.1)
  unfold readToks
  generalize rbits (bytesOf (writeBits ts)) = bs at *
  unfold writeBits at hbit hlen1 hlen2
  have hl1 := hlen1
  simp only [List.length_append] at hl1
  have r1 := readGo_bits (bs := bs) (lsS_ok ts) [] (wrBits (lsF ts) ++ (ts.flatMap (tokB (lsS ts) (lsF ts)) ++ word (lsS ts) 256)) (fun j => by rw [hbit j]; simp [List.append_assoc]) (by simp only [List.length_nil]; omega)
  have r2 := readGo_bits (bs := bs) (lsF_ok ts) (wrBits (lsS ts)) (ts.flatMap (tokB (lsS ts) (lsF ts)) ++ word (lsS ts) 256) (fun j => by rw [hbit j]; simp [List.append_assoc]) (by omega)
  rw [lsS_length] at r1
  rw [lsF_length] at r2
  simp only [List.length_nil, Nat.zero_add] at r1
  by_cases hneg : most < 0
  · rw [if_pos hneg, if_pos hneg]
  · rw [if_neg hneg, if_neg hneg]
    simp only [r1, r2, ne_eq, not_true_eq_false, if_false]
    have h := toksGo_all (bs := bs) (lsS_ok ts) (lsF_ok ts) (end_pos ts) ts [] most (bs.length + 1) (wrBits (lsS ts) ++ wrBits (lsF ts)) hts (by omega) (by omega) hbit hlen1 hlen2
    rw [List.length_append] at h
    rw [h, List.nil_append]
end Go.Proofs.YtmgjgkdbagbleaaGreatDoor.TW
