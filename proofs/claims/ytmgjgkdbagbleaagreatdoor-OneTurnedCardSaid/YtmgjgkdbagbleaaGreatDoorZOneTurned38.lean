/-
  The walk of the law BlockBounds. Plain: a frame that was written is read back; cut off anywhere it is not read. No walk. Plain: what block.Write writes is read; cut off anywhere it is not. No walk. The walk of the law BlockCut. The walk of the law BlockBack. Plain: a frame of which bits were turned is read as one whose sum isn't right. No walk. The walk of the law BlockTurned.
-/
import Derived.Test.YtmgjgkdbagbleaaGreatDoorZOneTurned28
import Derived.Test.YtmgjgkdbagbleaaGreatDoorZOneTurned34
import Derived.Test.YtmgjgkdbagbleaaGreatDoorZOneTurned37
import Derived.Test.YtmgjgkdbagbleaaGreatDoorZOneTurned6
import Derived.Test.YtmgjgkdbagbleaaGreatDoorZOneTurned27
import Derived.Test.YtmgjgkdbagbleaaGreatDoorZOneTurned15
namespace Go.Proofs.YtmgjgkdbagbleaaGreatDoor.Block
open Go.RowKit Go.Proofs.YtmgjgkdbagbleaaGreatDoor.Mem Go.Proofs.YtmgjgkdbagbleaaGreatDoor.Own Go.Proofs.YtmgjgkdbagbleaaGreatDoor.Canon
open Go.Proofs.YtmgjgkdbagbleaaGreatDoor.Nums Go.Proofs.YtmgjgkdbagbleaaGreatDoor.Crc
theorem takeE_zero {bs : List Nat} {at_ n : Nat} {er : Int} (h : takeE bs at_ er n = 0) : er = 0 ∧ n ≤ bs.length - at_ := by
  unfold takeE at h
  split at h
  · contradiction
  · rename_i h0
    split at h
    · cases h
    · exact ⟨by simpa using h0, by omega⟩
theorem op_zero {bs : List Nat} (h : opE bs = 0) : hE8 bs = 0 ∧ hE5 bs = 0 ∧ hP bs ≤ bs.length ∧ hN bs ≤ 1032 * hP bs + 64 ∧ byE (hWay bs) (hN bs) (hP bs) (hBody bs) = 0 := by
  unfold opE at h
  split at h
  · contradiction
  · rename_i h8
    have h8 : hE8 bs = 0 := by simpa using h8
    refine ⟨h8, ?_⟩
    unfold hE8 at h8
    split at h8
    · contradiction
    · rename_i h7
      have h7 : hE7 bs = 0 := by simpa using h7
      have h6 := (takeE_zero h7).1
      have h5 := takeE_zero h6
      refine ⟨h5.1, by omega, ?_, h⟩
      have h55 := h5.1
      unfold hE5 at h55
      split at h55
      · exfalso
        unfold failE at h55
        split at h55
        · cases h55
        · contradiction
      · omega
theorem op_bounds {bs : List Nat} (h8 : ∀ x ∈ bs, x ≤ 255) (h : opE bs = 0) : opA bs ≤ bs.length ∧ (opO bs).length ≤ 1032 * bs.length + 64 ∧ (opO bs).length ≤ 32768 := by
  obtain ⟨_, _, h3, h4, h5⟩ := op_zero h
  have hNl := hN_le h8
  have hA : opA bs = hA5 bs := if_neg (by rw [h]; simp)
  have hO : opO bs = byO (hWay bs) (hN bs) (hP bs) (hBody bs) := if_neg (by rw [h]; simp)
  have hl : (opO bs).length ≤ hN bs := by
    rw [hO]
    unfold byO
    rw [if_neg (by rw [h5]; simp)]
    by_cases hw : hWay bs = 0
    · rw [if_pos hw]
      unfold byE at h5
      rw [if_pos hw] at h5
      split at h5
      · cases h5
      · have := takeO_le bs (hA3 bs) (hE5 bs) (hP bs)
        unfold hBody
        omega
    · rw [if_neg hw]
      exact play_len _ _
  exact ⟨by rw [hA]; exact hA5_le h8, by omega, by omega⟩
end Go.Proofs.YtmgjgkdbagbleaaGreatDoor.Block
namespace Go.Proofs.YtmgjgkdbagbleaaGreatDoor.Block
open Go.Proofs.YtmgjgkdbagbleaaGreatDoor.NumPut Go.Proofs.YtmgjgkdbagbleaaGreatDoor.Crc Go.Proofs.YtmgjgkdbagbleaaGreatDoor.Nums
theorem numB_len3 {x : Nat} (h : x ≤ 2097151) : (numB x).length ≤ 3 := by
  by_cases h1 : x < 128
  · rw [numB_low h1]; simp
  · rw [numB_high h1, List.length_cons]
    by_cases h2 : x / 128 < 128
    · rw [numB_low h2]; simp
    · rw [numB_high h2, numB_low (by omega)]; simp
section
variable {T : List Nat} {way n p : Nat} {body t4 r1 r2 r3 r4 r5 : List Nat}
end
end Go.Proofs.YtmgjgkdbagbleaaGreatDoor.Block
namespace Go.Proofs.YtmgjgkdbagbleaaGreatDoor.Block
open Go.Proofs.YtmgjgkdbagbleaaGreatDoor.NumPut Go.Proofs.YtmgjgkdbagbleaaGreatDoor.Crc Go.Proofs.YtmgjgkdbagbleaaGreatDoor.Nums
open Go.Proofs.YtmgjgkdbagbleaaGreatDoor.Toks (Tk mayB)
open Go.Proofs.YtmgjgkdbagbleaaGreatDoor.Huff (sizeT readToks word word_length bytesOf bytesOf_length)
theorem size_find (l : List Nat) : ∀ at_, sizeT (Lz.findFrom l at_) = ((l.length - at_ : Nat) : Int) := by
  refine Lz.findFrom_ind (l := l) (fun at_ h => ?_) (fun at_ h h3 ih => ?_) (fun at_ h h3 ih => ?_)
  · rw [Lz.findFrom_end h, sizeT]; omega
  · have := Lz.bestR_fits (l := l) (at_ := at_) (by omega)
    rw [Lz.findFrom_match h h3, sizeT, ih]
    simp only
    omega
  · rw [Lz.findFrom_lit h h3, sizeT, ih]
    simp only
    omega
theorem size_bits {ls lf : List Nat} : ∀ {ts : List Tk}, (∀ t ∈ ts, mayB t.lit t.len t.dist = true ∧ ls.getD (Toks.splitP t).sym.toNat 0 ≠ 0 ∧ (t.len ≠ 0 → lf.getD (Toks.splitP t).dist.toNat 0 ≠ 0)) → sizeT ts ≤ 129 * ((ts.flatMap (TW.tokB ls lf)).length : Int)
  | [], _ => by simp [sizeT]
  | t :: ts, h => by
    obtain ⟨h0, h1, h2⟩ := h t (by simp)
    have ih := size_bits (ls := ls) (lf := lf) (ts := ts) (fun x hx => h x (List.mem_cons_of_mem _ hx))
    rw [List.flatMap_cons, List.length_append, sizeT]
    have hw := word_length ls (Toks.splitP t).sym.toNat
    have hl : max 1 t.len ≤ 129 * ((TW.tokB ls lf t).length : Int) := by
      unfold TW.tokB
      by_cases hz : t.len = 0
      · rw [if_pos hz, List.append_nil, hw, hz]
        omega
      · have h3 := h2 hz
        have hw2 := word_length lf (Toks.splitP t).dist.toNat
        unfold mayB at h0
        rw [if_neg hz] at h0
        have h0 := of_decide_eq_true h0
        rw [if_neg hz]
        simp only [List.length_append, hw, hw2]
        omega
    push_cast
    omega
theorem sq_back {bs : List Nat} (h8 : ∀ x ∈ bs, x ≤ 255) (hz : sqz bs = true) : (sqO bs).length < bs.length ∧ bs.length ≤ 1032 * (sqO bs).length + 64 ∧ readToks (sqO bs) bs.length = (Lz.find bs, 0) := by
  unfold sqz at hz
  simp only [Bool.and_eq_true, beq_iff_eq, decide_eq_true_eq] at hz
  obtain ⟨hE, hl⟩ := hz
  have hok : Toks.allOk (Lz.find bs) = true := by
    unfold sqE TW.writeE at hE
    split at hE
    · cases hE
    · split at hE
      · assumption
      · cases hE
  have hlit : ∀ t ∈ Lz.find bs, 0 ≤ t.lit ∧ t.lit ≤ 255 := fun t ht => ((Lz.find_ok h8 0).1 t ht).1
  have hO : sqO bs = bytesOf (TW.writeBits (Lz.find bs)) := by unfold sqO TW.writeO; exact if_pos hE
  have hsz : sizeT (Lz.find bs) = (bs.length : Int) := size_find bs 0
  have hts : ∀ t ∈ Lz.find bs, mayB t.lit t.len t.dist = true ∧ (TW.lsS (Lz.find bs)).getD (Toks.splitP t).sym.toNat 0 ≠ 0 ∧ (t.len ≠ 0 → (TW.lsF (Lz.find bs)).getD (Toks.splitP t).dist.toNat 0 ≠ 0) := by
    intro t ht
    have hok2 := hok
    unfold Toks.allOk at hok2
    have hm := List.all_eq_true.1 hok2 t ht
    obtain ⟨S, D, L, F, hsp, hS, hD, _⟩ := Toks.sym_nat t (hlit t ht).1 (hlit t ht).2 hm
    have e1 : (Toks.splitP t).sym.toNat = S := by rw [hsp]; rfl
    have e2 : (Toks.splitP t).dist.toNat = D := by rw [hsp]; rfl
    exact ⟨hm, TW.syms_pos ht (by omega), fun h0 => TW.fars_pos ht h0 (by omega)⟩
  have hb := size_bits hts
  have hbl : ((Lz.find bs).flatMap (TW.tokB (TW.lsS (Lz.find bs)) (TW.lsF (Lz.find bs)))).length ≤ (TW.writeBits (Lz.find bs)).length := by unfold TW.writeBits; simp only [List.length_append]; omega
  have hbb := bytesOf_length (TW.writeBits (Lz.find bs))
  rw [← hO] at hbb
  refine ⟨hl, by omega, ?_⟩
  rw [hO, TW.read_write hlit hok, if_neg (by omega), if_pos (by omega)]
theorem fbody_facts {bs : List Nat} (plain : Bool) (h8 : ∀ x ∈ bs, x ≤ 255) : (fBody bs plain).length ≤ bs.length ∧ bs.length ≤ 1032 * (fBody bs plain).length + 64 ∧ byE (fWay bs plain) bs.length (fBody bs plain).length (fBody bs plain) = 0 ∧ byO (fWay bs plain) bs.length (fBody bs plain).length (fBody bs plain) = bs := by
  unfold fBody fWay
  cases hc : (!plain && sqz bs)
  · simp only [Bool.false_eq_true, if_false]
    have h0 : byE 0 bs.length bs.length bs = 0 := by unfold byE; simp
    refine ⟨Nat.le_refl _, by omega, h0, ?_⟩
    unfold byO
    rw [h0]
    simp
  · simp only [if_true]
    have hz : sqz bs = true := by
      cases hz : sqz bs
      · rw [hz, Bool.and_false] at hc; cases hc
      · rfl
    obtain ⟨h1, h2, h3⟩ := sq_back h8 hz
    have hp : Lz.play (Lz.find bs) (bs.length : Int) = (bs, 0) := Lz.play_find h8 (by omega)
    have h0 : byE 1 bs.length (sqO bs).length (sqO bs) = 0 := by unfold byE; rw [h3, if_neg (by omega)]; simp only; rw [hp]; simp
    refine ⟨by omega, by omega, h0, ?_⟩
    unfold byO
    rw [h0, h3, if_neg (by simp), if_neg (by omega)]
    simp only
    rw [hp]
theorem fall_len (bs : List Nat) (plain : Bool) : (fAll bs plain).length = 1 + (numB bs.length).length + (numB (fBody bs plain).length).length + (fBody bs plain).length := by
  unfold fAll fHead
  simp
  omega
theorem frame_len (bs : List Nat) (plain : Bool) : (frameB bs plain).length = (fAll bs plain).length + 4 := by
  unfold frameB
  rw [List.length_append]
  rfl
section
variable {T : List Nat}
end
end Go.Proofs.YtmgjgkdbagbleaaGreatDoor.Block
namespace Go.Proofs.YtmgjgkdbagbleaaGreatDoor.Block
open Go.RowKit Go.Proofs.YtmgjgkdbagbleaaGreatDoor.Mem Go.Proofs.YtmgjgkdbagbleaaGreatDoor.Own Go.Proofs.YtmgjgkdbagbleaaGreatDoor.Canon
open Go.Proofs.YtmgjgkdbagbleaaGreatDoor.Nums Go.Proofs.YtmgjgkdbagbleaaGreatDoor.Crc Go.Proofs.YtmgjgkdbagbleaaGreatDoor.NumPut
theorem frame_size {bs : List Nat} (plain : Bool) (h8 : ∀ x ∈ bs, x ≤ 255) (hN : bs.length ≤ 32768) : 4 ≤ (frameB bs plain).length ∧ (frameB bs plain).length ≤ bs.length + 11 := by
  obtain ⟨b1, _, _, _⟩ := fbody_facts plain h8
  have h1 := numB_len3 (x := bs.length) (by omega)
  have h2 := numB_len3 (x := (fBody bs plain).length) (by omega)
  rw [frame_len, fall_len]
  omega
end Go.Proofs.YtmgjgkdbagbleaaGreatDoor.Block
namespace Go.Proofs.YtmgjgkdbagbleaaGreatDoor.Block
open Go.RowKit Go.Proofs.YtmgjgkdbagbleaaGreatDoor.Mem Go.Proofs.YtmgjgkdbagbleaaGreatDoor.Own Go.Proofs.YtmgjgkdbagbleaaGreatDoor.Canon
open Go.Proofs.YtmgjgkdbagbleaaGreatDoor.Nums Go.Proofs.YtmgjgkdbagbleaaGreatDoor.Crc Go.Proofs.YtmgjgkdbagbleaaGreatDoor.NumPut
theorem src_own2 {w : World} {base n c s : Nat} {e : TypeId} {A : Option Addr} {xs : List Value} (h : w.ownsRow base e s (.slice A n c) n xs) : Src w A n c s xs := by
  refine ⟨h.1, ?_⟩
  rcases h.2 with ⟨hv, h0⟩ | ⟨g, cap, cur, hv, hb, hh, hnc, hcap, hcs, htake⟩
  · injection hv with e1 e2 e3
    exact .inl ⟨e1, e2, e3⟩
  · injection hv with e1 e2 e3
    refine .inr ⟨⟨g, 0, none⟩, e1, fun j u hu => ?_⟩
    rw [add_none, Nat.zero_add, Blk.cell hh]
    rw [← htake, List.getElem?_take] at hu
    split at hu
    · simpa using hu
    · cases hu
end Go.Proofs.YtmgjgkdbagbleaaGreatDoor.Block
namespace Go.Proofs.YtmgjgkdbagbleaaGreatDoor.Block
open Go.Proofs.YtmgjgkdbagbleaaGreatDoor.NumPut Go.Proofs.YtmgjgkdbagbleaaGreatDoor.Crc Go.Proofs.YtmgjgkdbagbleaaGreatDoor.Nums
end Go.Proofs.YtmgjgkdbagbleaaGreatDoor.Block
namespace Go.Proofs.YtmgjgkdbagbleaaGreatDoor.Block
open Go.RowKit Go.Proofs.YtmgjgkdbagbleaaGreatDoor.Mem Go.Proofs.YtmgjgkdbagbleaaGreatDoor.Own Go.Proofs.YtmgjgkdbagbleaaGreatDoor.Canon
open Go.Proofs.YtmgjgkdbagbleaaGreatDoor.Nums Go.Proofs.YtmgjgkdbagbleaaGreatDoor.Crc Go.Proofs.YtmgjgkdbagbleaaGreatDoor.NumPut
theorem numL_set (k : IntKind) (l : List Nat) (i x : Nat) : (numL k l).set i (.int k (x : Nat)) = numL k (l.set i x) := by simp [numL, List.map_set]
end Go.Proofs.YtmgjgkdbagbleaaGreatDoor.Block
