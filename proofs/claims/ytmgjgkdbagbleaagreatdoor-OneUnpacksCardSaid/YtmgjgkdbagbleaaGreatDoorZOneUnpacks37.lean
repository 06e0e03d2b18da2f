/-
  The walk of the law BlockBounds. Plain: a frame that was written is read back; cut off anywhere it is not read. No walk. Plain: what block.Write writes is read; cut off anywhere it is not. No walk. The walk of the law BlockCut. The walk of the law BlockBack.
-/
import Derived.Test.YtmgjgkdbagbleaaGreatDoorZOneUnpacks26
import Derived.Test.YtmgjgkdbagbleaaGreatDoorZOneUnpacks32
import Derived.Test.YtmgjgkdbagbleaaGreatDoorZOneUnpacks24
import Derived.Test.YtmgjgkdbagbleaaGreatDoorZOneUnpacks31
namespace Go.Proofs.YtmgjgkdbagbleaaGreatDoor.Block
open Go.RowKit Go.Proofs.YtmgjgkdbagbleaaGreatDoor.Mem Go.Proofs.YtmgjgkdbagbleaaGreatDoor.Own Go.Proofs.YtmgjgkdbagbleaaGreatDoor.Canon
open Go.Proofs.YtmgjgkdbagbleaaGreatDoor.Nums Go.Proofs.YtmgjgkdbagbleaaGreatDoor.Crc
theorem takeE_zero {bs : List Nat} {at_ n : Nat} {er : Int} (h : takeE bs at_ er n = 0) : er = 0 ∧ n ≤ bs.length - at_ := by
  unfold takeE at h
  split at h
  · contradiction
  · rename_i h0
    split at h
    · cases h
    · exact ⟨by simpa using h0, by omega⟩
theorem op_zero {bs : List Nat} (h : opE bs = 0) : hE8 bs = 0 ∧ hE5 bs = 0 ∧ hP bs ≤ bs.length ∧ hN bs ≤ 1032 * hP bs + 64 ∧ byE (hWay bs) (hN bs) (hP bs) (hBody bs) = 0 := by
  unfold opE at h
  split at h
  · contradiction
  · rename_i h8
    have h8 : hE8 bs = 0 := by simpa using h8
    refine ⟨h8, ?_⟩
    unfold hE8 at h8
    split at h8
    · contradiction
    · rename_i h7
      have h7 : hE7 bs = 0 := by simpa using h7
      have h6 := (takeE_zero h7).1
      have h5 := takeE_zero h6
      refine ⟨h5.1, by omega, ?_, h⟩
      have h55 := h5.1
      unfold hE5 at h55
      split at h55
      · exfalso
        unfold failE at h55
        split at h55
        · cases h55
        · contradiction
      · omega
theorem op_bounds {bs : List Nat} (h8 : ∀ x ∈ bs, x ≤ 255) (h : opE bs = 0) : opA bs ≤ bs.length ∧ (opO bs).length ≤ 1032 * bs.length + 64 ∧ (opO bs).length ≤ 32768 := by
  obtain ⟨_, _, h3, h4, h5⟩ := op_zero h
  have hNl := hN_le h8
  have hA : opA bs = hA5 bs := if_neg (by rw [h]; simp)
  have hO : opO bs = byO (hWay bs) (hN bs) (hP bs) (hBody bs) := if_neg (by rw [h]; simp)
  have hl : (opO bs).length ≤ hN bs := by
    rw [hO]
    unfold byO
    rw [if_neg (by rw [h5]; simp)]
    by_cases hw : hWay bs = 0
    · rw [if_pos hw]
      unfold byE at h5
      rw [if_pos hw] at h5
      split at h5
      · cases h5
      · have := takeO_le bs (hA3 bs) (hE5 bs) (hP bs)
        unfold hBody
        omega
    · rw [if_neg hw]
      exact play_len _ _
  exact ⟨by rw [hA]; exact hA5_le h8, by omega, by omega⟩
end Go.Proofs.YtmgjgkdbagbleaaGreatDoor.Block
namespace Go.Proofs.YtmgjgkdbagbleaaGreatDoor.Block
open Go.Proofs.YtmgjgkdbagbleaaGreatDoor.NumPut Go.Proofs.YtmgjgkdbagbleaaGreatDoor.Crc Go.Proofs.YtmgjgkdbagbleaaGreatDoor.Nums
section
variable {T : List Nat} {way n p : Nat} {body t4 r1 r2 r3 r4 r5 : List Nat}
end
end Go.Proofs.YtmgjgkdbagbleaaGreatDoor.Block
namespace Go.Proofs.YtmgjgkdbagbleaaGreatDoor.Block
open Go.Proofs.YtmgjgkdbagbleaaGreatDoor.NumPut Go.Proofs.YtmgjgkdbagbleaaGreatDoor.Crc Go.Proofs.YtmgjgkdbagbleaaGreatDoor.Nums
open Go.Proofs.YtmgjgkdbagbleaaGreatDoor.Toks (Tk mayB)
open Go.Proofs.YtmgjgkdbagbleaaGreatDoor.Huff (sizeT readToks word bytesOf)
section
variable {T : List Nat}
end
end Go.Proofs.YtmgjgkdbagbleaaGreatDoor.Block
namespace Go.Proofs.YtmgjgkdbagbleaaGreatDoor.Block
open Go.RowKit Go.Proofs.YtmgjgkdbagbleaaGreatDoor.Mem Go.Proofs.YtmgjgkdbagbleaaGreatDoor.Own Go.Proofs.YtmgjgkdbagbleaaGreatDoor.Canon
open Go.Proofs.YtmgjgkdbagbleaaGreatDoor.Nums Go.Proofs.YtmgjgkdbagbleaaGreatDoor.Crc Go.Proofs.YtmgjgkdbagbleaaGreatDoor.NumPut
end Go.Proofs.YtmgjgkdbagbleaaGreatDoor.Block
namespace Go.Proofs.YtmgjgkdbagbleaaGreatDoor.Block
open Go.RowKit Go.Proofs.YtmgjgkdbagbleaaGreatDoor.Mem Go.Proofs.YtmgjgkdbagbleaaGreatDoor.Own Go.Proofs.YtmgjgkdbagbleaaGreatDoor.Canon
open Go.Proofs.YtmgjgkdbagbleaaGreatDoor.Nums Go.Proofs.YtmgjgkdbagbleaaGreatDoor.Crc Go.Proofs.YtmgjgkdbagbleaaGreatDoor.NumPut
theorem src_own2 {w : World} {base n c s : Nat} {e : TypeId} {A : Option Addr} {xs : List Value} (h : w.ownsRow base e s (.slice A n c) n xs) : Src w A n c s xs := by
  refine ⟨h.1, ?_⟩
  rcases h.2 with ⟨hv, h0⟩ | ⟨g, cap, cur, hv, hb, hh, hnc, hcap, hcs, htake⟩
  · injection hv with e1 e2 e3
    exact .inl ⟨e1, e2, e3⟩
  · injection hv with e1 e2 e3
    refine .inr ⟨⟨g, 0, none⟩, e1, fun j u hu => ?_⟩
    rw [add_none, Nat.zero_add, Blk.cell hh]
    rw [← htake, List.getElem?_take] at hu
    split at hu
    · simpa using hu
    · cases hu
end Go.Proofs.YtmgjgkdbagbleaaGreatDoor.Block
