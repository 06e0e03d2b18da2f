/-
  The walk of firkinref10.Play, on tokens that may be. The reference's reader of a frame; the way of a frame. The walk of the law BlockReads.
-/
import Derived.Test.YtmgjgkdbagbleaaGreatDoorZOneTurned20
import Derived.Test.YtmgjgkdbagbleaaGreatDoorZOneTurned18
import Derived.Test.YtmgjgkdbagbleaaGreatDoorZOneTurned34
import Derived.Test.YtmgjgkdbagbleaaGreatDoorZOneTurned6
import Derived.Test.YtmgjgkdbagbleaaGreatDoorZOneTurned27
import Derived.Test.YtmgjgkdbagbleaaGreatDoorZOneTurned15
import Derived.Test.YtmgjgkdbagbleaaGreatDoorZOneTurned22
import Derived.Test.YtmgjgkdbagbleaaGreatDoorZOneTurned4
import Derived.Test.YtmgjgkdbagbleaaGreatDoorZOneTurned3
import Derived.Test.YtmgjgkdbagbleaaGreatDoorZOneTurned35
import Derived.Test.YtmgjgkdbagbleaaGreatDoorZOneTurned31
import Derived.Test.YtmgjgkdbagbleaaGreatDoorZOneTurned33
import Derived.Test.YtmgjgkdbagbleaaGreatDoorZOneTurned28
namespace Go.Proofs.YtmgjgkdbagbleaaGreatDoor.Lz
open Go.RowKit Go.Proofs.YtmgjgkdbagbleaaGreatDoor.Mem Go.Proofs.YtmgjgkdbagbleaaGreatDoor.Own Go.Proofs.YtmgjgkdbagbleaaGreatDoor.Canon
open Go.Proofs.YtmgjgkdbagbleaaGreatDoor.Toks (Tk mayB)
end Go.Proofs.YtmgjgkdbagbleaaGreatDoor.Lz
namespace Go.Proofs.YtmgjgkdbagbleaaGreatDoor.Block
open Go.RowKit Go.Proofs.YtmgjgkdbagbleaaGreatDoor.Mem Go.Proofs.YtmgjgkdbagbleaaGreatDoor.Own Go.Proofs.YtmgjgkdbagbleaaGreatDoor.Canon
open Go.Proofs.YtmgjgkdbagbleaaGreatDoor.Nums Go.Proofs.YtmgjgkdbagbleaaGreatDoor.Crc
open Go.Proofs.YtmgjgkdbagbleaaGreatDoor.Huff (readToks tksL TRPost)
open Go.Proofs.YtmgjgkdbagbleaaGreatDoor.Toks (Tk mayB)
end Go.Proofs.YtmgjgkdbagbleaaGreatDoor.Block
namespace Go.Proofs.YtmgjgkdbagbleaaGreatDoor.Block
open Go.RowKit Go.Proofs.YtmgjgkdbagbleaaGreatDoor.Mem Go.Proofs.YtmgjgkdbagbleaaGreatDoor.Own Go.Proofs.YtmgjgkdbagbleaaGreatDoor.Canon
open Go.Proofs.YtmgjgkdbagbleaaGreatDoor.Nums Go.Proofs.YtmgjgkdbagbleaaGreatDoor.Crc Go.Proofs.YtmgjgkdbagbleaaGreatDoor.NumPut
open Go.Proofs.YtmgjgkdbagbleaaGreatDoor.Huff (readToks)
open Go.Proofs.YtmgjgkdbagbleaaGreatDoor.Toks (Tk)
theorem row_head5 {w : World} {A : Option Addr} {n : Nat} {ls : List Nat} (h : Row w w.heap.size A n 1 (numF .u8 ls)) (h0 : 0 < n) : ∀ a, A = some a → a.add 0 = a ∧ a.block < w.heap.size := by
  intro a ha
  obtain ⟨b, off, rfl, hb, _⟩ := h h0
  injection ha with ha
  subst ha
  exact ⟨by rw [Mem.add_none, Nat.add_zero], hb⟩
theorem getD_u8 {l : List Nat} (h : ∀ x ∈ l, x ≤ 255) (i : Nat) : l.getD i 0 ≤ 255 := by
  by_cases hi : i < l.length
  · rw [List.getD_eq_getElem?_getD, List.getElem?_eq_getElem hi]
    exact h _ (List.getElem_mem hi)
  · rw [List.getD_eq_getElem?_getD, List.getElem?_eq_none (by omega)]
    show 0 ≤ 255
    omega
theorem snoc_u8 {l : List Nat} {y : Nat} (h : ∀ x ∈ l, x ≤ 255) (hy : y ≤ 255) : ∀ x ∈ l ++ [y], x ≤ 255 := fun x hx => by
  rcases List.mem_append.1 hx with hx | hx
  · exact h x hx
  · rw [List.mem_singleton.1 hx]; exact hy
theorem copyT_u8 : ∀ (n d : Nat) (out : List Nat), (∀ x ∈ out, x ≤ 255) → ∀ x ∈ Lz.copyT out n d, x ≤ 255
  | 0, _, _, h => h
  | n + 1, d, _, h => copyT_u8 n d _ (snoc_u8 h (getD_u8 h _))
theorem playT_u8 (most : Int) : ∀ (ts : List Tk) (out : List Nat), (∀ t ∈ ts, 0 ≤ t.lit ∧ t.lit ≤ 255) → (∀ x ∈ out, x ≤ 255) → ∀ x ∈ (Lz.playT most out ts).1, x ≤ 255
  | [], _, _, h => h
  | t :: ts, _, hl, h => by
    have h1 := hl t (by simp)
    rw [Lz.playT]
    split
    · refine playT_u8 most ts _ (fun x hx => hl x (List.mem_cons_of_mem _ hx)) ?_
      split
      · exact snoc_u8 h (by omega)
      · exact copyT_u8 _ _ _ h
    · intro x hx; cases hx
theorem opO_u8 {bs : List Nat} (h8 : ∀ x ∈ bs, x ≤ 255) : ∀ x ∈ opO bs, x ≤ 255 := by
  intro x hx
  unfold opO at hx
  split at hx
  · cases hx
  · rename_i h0
    unfold byO at hx
    split at hx
    · cases hx
    · rename_i h1
      have h1 : byE (hWay bs) (hN bs) (hP bs) (hBody bs) = 0 := by simpa using h1
      split at hx
      · unfold hBody at hx
        exact h8 x (takeO_mem hx)
      · rename_i hw
        have hr : (readToks (hBody bs) (hN bs)).2 = 0 := by
          unfold byE at h1
          rw [if_neg hw] at h1
          split at h1
          · contradiction
          · rename_i h2
            simpa using h2
        unfold Lz.play at hx
        rw [if_neg (by omega)] at hx
        exact playT_u8 _ _ _ (fun t ht => (read_all hr t ht).1) (by simp) x hx
end Go.Proofs.YtmgjgkdbagbleaaGreatDoor.Block
