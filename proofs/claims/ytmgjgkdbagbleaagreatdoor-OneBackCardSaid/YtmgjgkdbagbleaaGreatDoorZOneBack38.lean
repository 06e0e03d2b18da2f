/-
  The walk of the law BlockBounds. Plain: a frame that was written is read back; cut off anywhere it is not read. No walk. Plain: what block.Write writes is read; cut off anywhere it is not. No walk. The walk of the law BlockCut. The walk of the law BlockBack.
-/
import Derived.Test.YtmgjgkdbagbleaaGreatDoorZOneBack28
import Derived.Test.YtmgjgkdbagbleaaGreatDoorZOneBack34
import Derived.Test.YtmgjgkdbagbleaaGreatDoorZOneBack37
namespace Go.Proofs.YtmgjgkdbagbleaaGreatDoor.Block
open Go.RowKit Go.Proofs.YtmgjgkdbagbleaaGreatDoor.Mem Go.Proofs.YtmgjgkdbagbleaaGreatDoor.Own Go.Proofs.YtmgjgkdbagbleaaGreatDoor.Canon
open Go.Proofs.YtmgjgkdbagbleaaGreatDoor.Nums Go.Proofs.YtmgjgkdbagbleaaGreatDoor.Crc
theorem takeE_zero {bs : List Nat} {at_ n : Nat} {er : Int} (h : takeE bs at_ er n = 0) : er = 0 ∧ n ≤ bs.length - at_ := by
  unfold takeE at h
  split at h
  · contradiction
  · rename_i h0
    split at h
    · cases h
    · exact ⟨by simpa using h0, by omega⟩
theorem op_zero {bs : List Nat} (h : opE bs = 0) : hE8 bs = 0 ∧ hE5 bs = 0 ∧ hP bs ≤ bs.length ∧ hN bs ≤ 1032 * hP bs + 64 ∧ byE (hWay bs) (hN bs) (hP bs) (hBody bs) = 0 := by
  unfold opE at h
  split at h
  · contradiction
  · rename_i h8
    have h8 : hE8 bs = 0 := by simpa using h8
    refine ⟨h8, ?_⟩
    unfold hE8 at h8
    split at h8
    · contradiction
    · rename_i h7
      have h7 : hE7 bs = 0 := by simpa using h7
      have h6 := (takeE_zero h7).1
      have h5 := takeE_zero h6
      refine ⟨h5.1, by omega, ?_, h⟩
      have h55 := h5.1
      unfold hE5 at h55
      split at h55
      · exfalso
        unfold failE at h55
        split at h55
        · cases h55
        · contradiction
      · omega
theorem op_bounds {bs : List Nat} (h8 : ∀ x ∈ bs, x ≤ 255) (h : opE bs = 0) : opA bs ≤ bs.length ∧ (opO bs).length ≤ 1032 * bs.length + 64 ∧ (opO bs).length ≤ 32768 := by
  obtain ⟨_, _, h3, h4, h5⟩ := op_zero h
  have hNl := hN_le h8
  have hA : opA bs = hA5 bs := if_neg (by rw [h]; simp)
  have hO : opO bs = byO (hWay bs) (hN bs) (hP bs) (hBody bs) := if_neg (by rw [h]; simp)
  have hl : (opO bs).length ≤ hN bs := by
    rw [hO]
    unfold byO
    rw [if_neg (by rw [h5]; simp)]
    by_cases hw : hWay bs = 0
    · rw [if_pos hw]
      unfold byE at h5
      rw [if_pos hw] at h5
      split at h5
      · cases h5
      · have := takeO_le bs (hA3 bs) (hE5 bs) (hP bs)
        unfold hBody
        omega
    · rw [if_neg hw]
      exact play_len _ _
  exact ⟨by rw [hA]; exact hA5_le h8, by omega, by omega⟩
end Go.Proofs.YtmgjgkdbagbleaaGreatDoor.Block
namespace Go.Proofs.YtmgjgkdbagbleaaGreatDoor.Block
open Go.Proofs.YtmgjgkdbagbleaaGreatDoor.NumPut Go.Proofs.YtmgjgkdbagbleaaGreatDoor.Crc Go.Proofs.YtmgjgkdbagbleaaGreatDoor.Nums
theorem scan_numB : ∀ (x i acc : Nat) (rest : List Nat), i + (numB x).length ≤ 9 → (0 < i → 0 < x) → scanP (numB x ++ rest) i acc = (acc + x * 2 ^ (7 * i), i + (numB x).length, 0) := by
  intro x
  induction x using Nat.strongRecOn with
  | _ x ih =>
    intro i acc rest hl hi
    by_cases h : x < 128
    · rw [numB_low h] at hl ⊢
      simp only [List.length_singleton] at hl
      rw [List.cons_append, List.nil_append, scanP, if_neg (by omega), if_pos h, Nat.mod_eq_of_lt h]
      rfl
    · rw [numB_high h] at hl ⊢
      simp only [List.length_cons] at hl
      rw [List.cons_append, scanP, if_neg (by omega), if_neg (by omega), ih (x / 128) (by omega) (i + 1) _ rest (by omega) (by omega)]
      have e1 : (x % 128 + 128) % 128 = x % 128 := by omega
      have e2 : 2 ^ (7 * (i + 1)) = 128 * 2 ^ (7 * i) := by rw [show 7 * (i + 1) = 7 * i + 7 by omega, Nat.pow_add]; omega
      have e3 : x * 2 ^ (7 * i) = x % 128 * 2 ^ (7 * i) + x / 128 * (128 * 2 ^ (7 * i)) := by
        rw [← Nat.mul_assoc, ← Nat.add_mul]
        congr 1
        omega
      rw [e1, e2, e3, List.length_cons]
      simp only [Prod.mk.injEq, and_true]
      omega
theorem numB_len3 {x : Nat} (h : x ≤ 2097151) : (numB x).length ≤ 3 := by
  by_cases h1 : x < 128
  · rw [numB_low h1]; simp
  · rw [numB_high h1, List.length_cons]
    by_cases h2 : x / 128 < 128
    · rw [numB_low h2]; simp
    · rw [numB_high h2, numB_low (by omega)]; simp
theorem lim_numB {x : Nat} (h : x ≤ 32768) (rest : List Nat) : limP 32768 (numB x ++ rest) = (x, (numB x).length, 0) := by
  have hl := numB_len3 (x := x) (by omega)
  unfold limP
  rw [scan_numB x 0 0 rest (by omega) (by omega)]
  simp
  omega
section
variable {T : List Nat} {way n p : Nat} {body t4 r1 r2 r3 r4 r5 : List Nat}
theorem st1 (h : T = way :: r1) (hw : way ≤ 1) : hWay T = way ∧ hA1 T = 1 ∧ hE2 T = 0 := by
  subst h
  have h1 : hWay (way :: r1) = way := rfl
  have h2 : hE1 (way :: r1) = 0 := by unfold hE1; rw [takeE0]; simp
  refine ⟨h1, ?_, ?_⟩
  · unfold hA1; rw [takeA0]; simp
  · unfold hE2; rw [h1, h2, if_neg (by omega)]
theorem st2 (h : T = way :: (numB n ++ r2)) (hw : way ≤ 1) (hn : n ≤ 32768) : hN T = n ∧ hA2 T = 1 + (numB n).length ∧ hE3 T = 0 := by
  obtain ⟨_, h2, h3⟩ := st1 h hw
  have hd : T.drop 1 = numB n ++ r2 := by rw [h]; rfl
  refine ⟨?_, ?_, ?_⟩
  · unfold hN intV; rw [h2, h3, hd, lim_numB hn]; simp
  · unfold hA2 intA; rw [h2, h3, hd, lim_numB hn]; simp
  · unfold hE3 intE; rw [h2, h3, hd, lim_numB hn]; simp
theorem st3 (h : T = way :: (numB n ++ (numB p ++ r3))) (hw : way ≤ 1) (hn : n ≤ 32768) (hp : p ≤ 32768) (hnp : n ≤ 1032 * p + 64) : hP T = p ∧ hA3 T = 1 + (numB n).length + (numB p).length ∧ hE5 T = 0 := by
  obtain ⟨h1, h2, h3⟩ := st2 h hw hn
  have hd : T.drop (1 + (numB n).length) = numB p ++ r3 := by rw [h, Nat.add_comm, List.drop_succ_cons, List.drop_left]
  have h4 : hP T = p := by unfold hP intV; rw [h2, h3, hd, lim_numB hp]; simp
  refine ⟨h4, ?_, ?_⟩
  · unfold hA3 intA; rw [h2, h3, hd, lim_numB hp]; simp
  · have h5 : hE4 T = 0 := by unfold hE4 intE; rw [h2, h3, hd, lim_numB hp]; simp
    unfold hE5
    rw [h4, h1, if_neg (by omega), h5]
theorem st4 (h : T = way :: (numB n ++ (numB p ++ (body ++ r4)))) (hw : way ≤ 1) (hn : n ≤ 32768) (hp : p ≤ 32768) (hnp : n ≤ 1032 * p + 64) (hb : body.length = p) : hBody T = body ∧ hA4 T = 1 + (numB n).length + (numB p).length + p ∧ hE6 T = 0 := by
  obtain ⟨h1, h2, h3⟩ := st3 h hw hn hp hnp
  have hd : T.drop (1 + (numB n).length + (numB p).length) = body ++ r4 := by
    rw [h, show 1 + (numB n).length + (numB p).length = ((numB n).length + (numB p).length) + 1 by omega, List.drop_succ_cons, ← List.drop_drop, List.drop_left, List.drop_left]
  have hl : T.length = 1 + (numB n).length + (numB p).length + p + r4.length := by rw [h]; simp; omega
  refine ⟨?_, ?_, ?_⟩
  · unfold hBody; rw [h1, h2, h3, take0, if_neg (by omega), hd, ← hb, List.take_left]
  · unfold hA4; rw [h1, h2, h3, takeA0, if_neg (by omega)]
  · unfold hE6; rw [h1, h2, h3, takeE0, if_neg (by omega)]
theorem st5 (h : T = way :: (numB n ++ (numB p ++ (body ++ (t4 ++ r5))))) (hw : way ≤ 1) (hn : n ≤ 32768) (hp : p ≤ 32768) (hnp : n ≤ 1032 * p + 64) (hb : body.length = p) (ht : t4.length = 4) : hA5 T = 1 + (numB n).length + (numB p).length + p + 4 ∧ hE7 T = 0 := by
  obtain ⟨_, h2, h3⟩ := st4 h hw hn hp hnp hb
  have hl : T.length = 1 + (numB n).length + (numB p).length + p + 4 + r5.length := by rw [h]; simp; omega
  refine ⟨?_, ?_⟩
  · unfold hA5; rw [h2, h3, takeA0, if_neg (by omega)]
  · unfold hE7; rw [h2, h3, takeE0, if_neg (by omega)]
end
end Go.Proofs.YtmgjgkdbagbleaaGreatDoor.Block
namespace Go.Proofs.YtmgjgkdbagbleaaGreatDoor.Block
open Go.Proofs.YtmgjgkdbagbleaaGreatDoor.NumPut Go.Proofs.YtmgjgkdbagbleaaGreatDoor.Crc Go.Proofs.YtmgjgkdbagbleaaGreatDoor.Nums
open Go.Proofs.YtmgjgkdbagbleaaGreatDoor.Toks (Tk mayB)
open Go.Proofs.YtmgjgkdbagbleaaGreatDoor.Huff (sizeT readToks word word_length bytesOf bytesOf_length)
theorem size_find (l : List Nat) : ∀ at_, sizeT (Lz.findFrom l at_) = ((l.length - at_ : Nat) : Int) := by
  refine Lz.findFrom_ind (l := l) (fun at_ h => ?_) (fun at_ h h3 ih => ?_) (fun at_ h h3 ih => ?_)
  · rw [Lz.findFrom_end h, sizeT]; omega
  · have := Lz.bestR_fits (l := l) (at_ := at_) (by omega)
    rw [Lz.findFrom_match h h3, sizeT, ih]
    simp only
    omega
  · rw [Lz.findFrom_lit h h3, sizeT, ih]
    simp only
    omega
theorem size_bits {ls lf : List Nat} : ∀ {ts : List Tk}, (∀ t ∈ ts, mayB t.lit t.len t.dist = true ∧ ls.getD (Toks.splitP t).sym.toNat 0 ≠ 0 ∧ (t.len ≠ 0 → lf.getD (Toks.splitP t).dist.toNat 0 ≠ 0)) → sizeT ts ≤ 129 * ((ts.flatMap (TW.tokB ls lf)).length : Int)
  | [], _ => by simp [sizeT]
  | t :: ts, h => by
    obtain ⟨h0, h1, h2⟩ := h t (by simp)
    have ih := size_bits (ls := ls) (lf := lf) (ts := ts) (fun x hx => h x (List.mem_cons_of_mem _ hx))
    rw [List.flatMap_cons, List.length_append, sizeT]
    have hw := word_length ls (Toks.splitP t).sym.toNat
    have hl : max 1 t.len ≤ 129 * ((TW.tokB ls lf t).length : Int) := by
      unfold TW.tokB
      by_cases hz : t.len = 0
      · rw [if_pos hz, List.append_nil, hw, hz]
        omega
      · have h3 := h2 hz
        have hw2 := word_length lf (Toks.splitP t).dist.toNat
        unfold mayB at h0
        rw [if_neg hz] at h0
        have h0 := of_decide_eq_true h0
        rw [if_neg hz]
        simp only [List.length_append, hw, hw2]
        omega
    push_cast
    omega
theorem sq_back {bs : List Nat} (h8 : ∀ x ∈ bs, x ≤ 255) (hz : sqz bs = true) : (sqO bs).length < bs.length ∧ bs.length ≤ 1032 * (sqO bs).length + 64 ∧ readToks (sqO bs) bs.length = (Lz.find bs, 0) := by
  unfold sqz at hz
  simp only [Bool.and_eq_true, beq_iff_eq, decide_eq_true_eq] at hz
  obtain ⟨hE, hl⟩ := hz
  have hok : Toks.allOk (Lz.find bs) = true := by
    unfold sqE TW.writeE at hE
    split at hE
    · cases hE
    · split at hE
      · assumption
      · cases hE
  have hlit : ∀ t ∈ Lz.find bs, 0 ≤ t.lit ∧ t.lit ≤ 255 := fun t ht => ((Lz.find_ok h8 0).1 t ht).1
  have hO : sqO bs = bytesOf (TW.writeBits (Lz.find bs)) := by unfold sqO TW.writeO; exact if_pos hE
  have hsz : sizeT (Lz.find bs) = (bs.length : Int) := size_find bs 0
  have hts : ∀ t ∈ Lz.find bs, mayB t.lit t.len t.dist = true ∧ (TW.lsS (Lz.find bs)).getD (Toks.splitP t).sym.toNat 0 ≠ 0 ∧ (t.len ≠ 0 → (TW.lsF (Lz.find bs)).getD (Toks.splitP t).dist.toNat 0 ≠ 0) := by
    intro t ht
    have hok2 := hok
    unfold Toks.allOk at hok2
    have hm := List.all_eq_true.1 hok2 t ht
    obtain ⟨S, D, L, F, hsp, hS, hD, _⟩ := Toks.sym_nat t (hlit t ht).1 (hlit t ht).2 hm
    have e1 : (Toks.splitP t).sym.toNat = S := by rw [hsp]; rfl
    have e2 : (Toks.splitP t).dist.toNat = D := by rw [hsp]; rfl
    exact ⟨hm, TW.syms_pos ht (by omega), fun h0 => TW.fars_pos ht h0 (by omega)⟩
  have hb := size_bits hts
  have hbl : ((Lz.find bs).flatMap (TW.tokB (TW.lsS (Lz.find bs)) (TW.lsF (Lz.find bs)))).length ≤ (TW.writeBits (Lz.find bs)).length := by unfold TW.writeBits; simp only [List.length_append]; omega
  have hbb := bytesOf_length (TW.writeBits (Lz.find bs))
  rw [← hO] at hbb
  refine ⟨hl, by omega, ?_⟩
  rw [hO, TW.read_write hlit hok, if_neg (by omega), if_pos (by omega)]
theorem fway_le (bs : List Nat) (plain : Bool) : fWay bs plain ≤ 1 := by unfold fWay; split <;> omega
theorem fbody_facts {bs : List Nat} (plain : Bool) (h8 : ∀ x ∈ bs, x ≤ 255) : (fBody bs plain).length ≤ bs.length ∧ bs.length ≤ 1032 * (fBody bs plain).length + 64 ∧ byE (fWay bs plain) bs.length (fBody bs plain).length (fBody bs plain) = 0 ∧ byO (fWay bs plain) bs.length (fBody bs plain).length (fBody bs plain) = bs := by
  unfold fBody fWay
  cases hc : (!plain && sqz bs)
  · simp only [Bool.false_eq_true, if_false]
    have h0 : byE 0 bs.length bs.length bs = 0 := by unfold byE; simp
    refine ⟨Nat.le_refl _, by omega, h0, ?_⟩
    unfold byO
    rw [h0]
    simp
  · simp only [if_true]
    have hz : sqz bs = true := by
      cases hz : sqz bs
      · rw [hz, Bool.and_false] at hc; cases hc
      · rfl
    obtain ⟨h1, h2, h3⟩ := sq_back h8 hz
    have hp : Lz.play (Lz.find bs) (bs.length : Int) = (bs, 0) := Lz.play_find h8 (by omega)
    have h0 : byE 1 bs.length (sqO bs).length (sqO bs) = 0 := by unfold byE; rw [h3, if_neg (by omega)]; simp only; rw [hp]; simp
    refine ⟨by omega, by omega, h0, ?_⟩
    unfold byO
    rw [h0, h3, if_neg (by simp), if_neg (by omega)]
    simp only
    rw [hp]
theorem tail4 (s : Nat) : (tailN s).length = 4 := rfl
theorem frame_eq (bs : List Nat) (plain : Bool) (more : List Nat) : frameB bs plain ++ more = fWay bs plain :: (numB bs.length ++ (numB (fBody bs plain).length ++ (fBody bs plain ++ (tailN (sumN (fAll bs plain)) ++ more)))) := by
  unfold frameB fAll fHead
  simp
theorem fall_len (bs : List Nat) (plain : Bool) : (fAll bs plain).length = 1 + (numB bs.length).length + (numB (fBody bs plain).length).length + (fBody bs plain).length := by
  unfold fAll fHead
  simp
  omega
theorem frame_len (bs : List Nat) (plain : Bool) : (frameB bs plain).length = (fAll bs plain).length + 4 := by
  unfold frameB
  rw [List.length_append]
  rfl
theorem frame_back {bs : List Nat} (plain : Bool) (more : List Nat) (h8 : ∀ x ∈ bs, x ≤ 255) (hN : bs.length ≤ 32768) :
    opE (frameB bs plain ++ more) = 0 ∧ opO (frameB bs plain ++ more) = bs ∧ opA (frameB bs plain ++ more) = (frameB bs plain).length := by
  obtain ⟨b1, b2, b3, b4⟩ := fbody_facts plain h8
  have hw := fway_le bs plain
  have he := frame_eq bs plain more
  obtain ⟨T, hT⟩ : ∃ T, T = frameB bs plain ++ more := ⟨_, rfl⟩
  rw [← hT] at he ⊢
  obtain ⟨s1, _, _⟩ := st1 he hw
  obtain ⟨s2, _, _⟩ := st2 he hw hN
  obtain ⟨s3, _, _⟩ := st3 he hw hN (by omega) b2
  obtain ⟨s4, _, _⟩ := st4 he hw hN (by omega) b2 rfl
  obtain ⟨s5, s7⟩ := st5 he hw hN (by omega) b2 rfl (tail4 _)
  have hl : hA5 T = (frameB bs plain).length := by rw [s5, frame_len, fall_len]
  have h88 : hE8 T = 0 := by
    unfold hE8
    rw [s7, if_neg (by simp), hl, hT, List.take_left]
    unfold cutE
    have e1 : (frameB bs plain).length - 4 = (fAll bs plain).length := by rw [frame_len]; omega
    rw [e1, if_neg (by rw [frame_len]; omega)]
    have e2 : (frameB bs plain).take (fAll bs plain).length = fAll bs plain := by unfold frameB; exact List.take_left
    have e3 : (frameB bs plain).drop (fAll bs plain).length = tailN (sumN (fAll bs plain)) := by unfold frameB; exact List.drop_left
    rw [e2, e3, if_pos rfl]
  have hE : opE T = 0 := by unfold opE; rw [h88, if_neg (by simp), s1, s2, s3, s4, b3]
  refine ⟨hE, ?_, ?_⟩
  · unfold opO; rw [hE, if_neg (by simp), s1, s2, s3, s4, b4]
  · unfold opA; rw [hE, if_neg (by simp), hl]
section
variable {T : List Nat}
end
end Go.Proofs.YtmgjgkdbagbleaaGreatDoor.Block
namespace Go.Proofs.YtmgjgkdbagbleaaGreatDoor.Block
open Go.RowKit Go.Proofs.YtmgjgkdbagbleaaGreatDoor.Mem Go.Proofs.YtmgjgkdbagbleaaGreatDoor.Own Go.Proofs.YtmgjgkdbagbleaaGreatDoor.Canon
open Go.Proofs.YtmgjgkdbagbleaaGreatDoor.Nums Go.Proofs.YtmgjgkdbagbleaaGreatDoor.Crc Go.Proofs.YtmgjgkdbagbleaaGreatDoor.NumPut
theorem frame_size {bs : List Nat} (plain : Bool) (h8 : ∀ x ∈ bs, x ≤ 255) (hN : bs.length ≤ 32768) : 4 ≤ (frameB bs plain).length ∧ (frameB bs plain).length ≤ bs.length + 11 := by
  obtain ⟨b1, _, _, _⟩ := fbody_facts plain h8
  have h1 := numB_len3 (x := bs.length) (by omega)
  have h2 := numB_len3 (x := (fBody bs plain).length) (by omega)
  rw [frame_len, fall_len]
  omega
end Go.Proofs.YtmgjgkdbagbleaaGreatDoor.Block
namespace Go.Proofs.YtmgjgkdbagbleaaGreatDoor.Block
open Go.RowKit Go.Proofs.YtmgjgkdbagbleaaGreatDoor.Mem Go.Proofs.YtmgjgkdbagbleaaGreatDoor.Own Go.Proofs.YtmgjgkdbagbleaaGreatDoor.Canon
open Go.Proofs.YtmgjgkdbagbleaaGreatDoor.Nums Go.Proofs.YtmgjgkdbagbleaaGreatDoor.Crc Go.Proofs.YtmgjgkdbagbleaaGreatDoor.NumPut
theorem src_own2 {w : World} {base n c s : Nat} {e : TypeId} {A : Option Addr} {xs : List Value} (h : w.ownsRow base e s (.slice A n c) n xs) : Src w A n c s xs := by
  refine ⟨h.1, ?_⟩
  rcases h.2 with ⟨hv, h0⟩ | ⟨g, cap, cur, hv, hb, hh, hnc, hcap, hcs, htake⟩
  · injection hv with e1 e2 e3
    exact .inl ⟨e1, e2, e3⟩
  · injection hv with e1 e2 e3
    refine .inr ⟨⟨g, 0, none⟩, e1, fun j u hu => ?_⟩
    rw [add_none, Nat.zero_add, Blk.cell hh]
    rw [← htake, List.getElem?_take] at hu
    split at hu
    · simpa using hu
    · cases hu
end Go.Proofs.YtmgjgkdbagbleaaGreatDoor.Block
