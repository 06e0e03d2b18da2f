/-
  Plain: the best match by chains of places with the same three bytes. The walks of lz.key and lz.alike. The map of the chains: by three bytes the last place. No walk. The walk of (*lz.chains).add. The walks of (*lz.chains).add, whole, and of (*lz.chains).longest. The walk of lz.Find. The walk of lz.Play, on tokens that may be.
-/
import Derived.Test.YtmgjgkdbagbleaaGreatDoorZOneUnpacks16
import Derived.Test.YtmgjgkdbagbleaaGreatDoorZOneUnpacks5
import Derived.Test.YtmgjgkdbagbleaaGreatDoorZOneUnpacks3
import Derived.Test.YtmgjgkdbagbleaaGreatDoorZOneUnpacks18
import Derived.Deep.RegionHeld3
import Derived.Test.YtmgjgkdbagbleaaGreatDoorProg
import Derived.Maps.OwnSet
import Derived.DeepKeys4
import Derived.Deep.AppendLies
import Derived.Lib.MinMax
namespace Go.Proofs.YtmgjgkdbagbleaaGreatDoor.Lz
end Go.Proofs.YtmgjgkdbagbleaaGreatDoor.Lz
namespace Go.Proofs.YtmgjgkdbagbleaaGreatDoor.Lz
open Go.RowKit Go.Proofs.YtmgjgkdbagbleaaGreatDoor.Mem Go.Proofs.YtmgjgkdbagbleaaGreatDoor.Own Go.Proofs.YtmgjgkdbagbleaaGreatDoor.Canon
end Go.Proofs.YtmgjgkdbagbleaaGreatDoor.Lz
namespace Go.Proofs.YtmgjgkdbagbleaaGreatDoor.Lz
open Go.RowKit Go.Maps Go.Proofs.YtmgjgkdbagbleaaGreatDoor.Mem Go.Proofs.YtmgjgkdbagbleaaGreatDoor.Own
end Go.Proofs.YtmgjgkdbagbleaaGreatDoor.Lz
namespace Go.Proofs.YtmgjgkdbagbleaaGreatDoor.Lz
open Go.RowKit Go.Maps Go.Proofs.YtmgjgkdbagbleaaGreatDoor.Mem Go.Proofs.YtmgjgkdbagbleaaGreatDoor.Own Go.Proofs.YtmgjgkdbagbleaaGreatDoor.Canon
section
variable {w w' : World} {cb mb base : Nat} {l : List Nat} {n m : Nat} {D : DataW Unit} {pv : Value} {ps : List Int}
end
theorem own_put {w : World} {base n g c i : Nat} {e : TypeId} {xs : List Value} (h : w.ownsRow base e 1 (.slice (some ⟨g, 0, none⟩) n c) n xs) (u : Value) (_hi : i < n) : (w.setCell ⟨g, i, none⟩ u).ownsRow base e 1 (.slice (some ⟨g, 0, none⟩) n c) n (xs.set i u) := by
  refine ⟨by rw [List.length_set]; exact h.1, ?_⟩
  rcases h.2 with ⟨hv, _⟩ | ⟨g', cap, cur, hv, hb, hg, h1, h2, h3, h4⟩
  · cases hv
  · injection hv with e1 e2 e3
    injection e1 with e1
    injection e1 with e1
    subst e1 e3
    have hbl : Blk w g e cur := hg
    refine .inr ⟨g, c, cur.setIfInBounds i u, rfl, hb, hbl.set i u, h1, h2, by simpa using h3, ?_⟩
    rw [← h4]
    simp [List.take_set]
theorem own_cells {w : World} {base n g c i : Nat} {e : TypeId} {xs : List Value} (h : w.ownsRow base e 1 (.slice (some ⟨g, 0, none⟩) n c) n xs) (hi : i < n) : w.cell? ⟨g, i, none⟩ = xs[i]? ∧ w.frozen? ⟨g, i, none⟩ = false ∧ base ≤ g := by
  rcases h.2 with ⟨hv, _⟩ | ⟨g', cap, cur, hv, hb, hg, h1, h2, h3, h4⟩
  · cases hv
  · injection hv with e1 e2 e3
    injection e1 with e1
    injection e1 with e1
    subst e1 e3
    have hbl : Blk w g e cur := hg
    refine ⟨?_, hbl.frozen i, hb⟩
    rw [hbl.cell i, ← h4, List.getElem?_take_of_lt (by omega)]
    simp
end Go.Proofs.YtmgjgkdbagbleaaGreatDoor.Lz
namespace Go.Proofs.YtmgjgkdbagbleaaGreatDoor.Lz
open Go.RowKit Go.Maps Go.Proofs.YtmgjgkdbagbleaaGreatDoor.Mem Go.Proofs.YtmgjgkdbagbleaaGreatDoor.Own Go.Proofs.YtmgjgkdbagbleaaGreatDoor.Canon
end Go.Proofs.YtmgjgkdbagbleaaGreatDoor.Lz
namespace Go.Proofs.YtmgjgkdbagbleaaGreatDoor.Lz
open Go.RowKit Go.Maps Go.Proofs.YtmgjgkdbagbleaaGreatDoor.Mem Go.Proofs.YtmgjgkdbagbleaaGreatDoor.Own Go.Proofs.YtmgjgkdbagbleaaGreatDoor.Canon
open Go.Proofs.YtmgjgkdbagbleaaGreatDoor.Toks (Tk)
open Go.Proofs.YtmgjgkdbagbleaaGreatDoor.Huff (tksL tksL_snoc info_tok3)
section
variable {w0 w w' : World} {cb mb : Nat} {l : List Nat} {at_ k : Nat} {D : DataW Unit} {pv vt : Value} {ts : List Tk}
end
end Go.Proofs.YtmgjgkdbagbleaaGreatDoor.Lz
namespace Go.Proofs.YtmgjgkdbagbleaaGreatDoor.Lz
open Go.RowKit Go.Proofs.YtmgjgkdbagbleaaGreatDoor.Mem Go.Proofs.YtmgjgkdbagbleaaGreatDoor.Own Go.Proofs.YtmgjgkdbagbleaaGreatDoor.Canon
open Go.Proofs.YtmgjgkdbagbleaaGreatDoor.Toks (Tk mayB lz_may)
theorem copyT_snoc : ∀ (n d : Nat) (out : List Nat), copyT out (n + 1) d = copyT out n d ++ [(copyT out n d).getD ((copyT out n d).length - d) 0]
  | 0, _, _ => rfl
  | n + 1, d, out => by
    rw [copyT, copyT_snoc n d]
    rfl
theorem may_cases {t : Tk} (hl : 0 ≤ t.lit ∧ t.lit ≤ 255) (h : mayB t.lit t.len t.dist = true) :
    (∃ x : Nat, x ≤ 255 ∧ t = ⟨(x : Int), 0, 0⟩) ∨ ∃ L D : Nat, 3 ≤ L ∧ L ≤ 257 ∧ 1 ≤ D ∧ D ≤ 4095 ∧ t = ⟨0, (L : Int), (D : Int)⟩ := by
  obtain ⟨lit, len, dist⟩ := t
  simp only at hl h
  unfold mayB at h
  split at h
  · rename_i h0
    have h1 := of_decide_eq_true h
    subst h0 h1
    exact .inl ⟨lit.toNat, by omega, by rw [Int.toNat_of_nonneg hl.1]⟩
  · have h1 := of_decide_eq_true h
    refine .inr ⟨len.toNat, dist.toNat, by omega, by omega, by omega, by omega, ?_⟩
    rw [Int.toNat_of_nonneg (by omega), Int.toNat_of_nonneg (by omega), h1.1]
theorem playE_lit {most q x : Nat} {out : List Nat} (hq : out.length = q) (_h : q ≤ most) : playE most out ⟨(x : Int), 0, 0⟩ = if most - q < 1 then 6 else 0 := by
  unfold playE
  rw [if_pos (show mayB (x : Int) 0 0 = true from rfl), hq, if_neg (show ¬ (q : Int) < 0 by omega)]
  by_cases h : most - q < 1
  · rw [if_pos (show (most : Int) - (q : Int) < max 1 0 by omega), if_pos h]
  · rw [if_neg (show ¬ (most : Int) - (q : Int) < max 1 0 by omega), if_neg h]
theorem playE_match {most q L D : Nat} {out : List Nat} (hq : out.length = q) (_h : q ≤ most) (h1 : 3 ≤ L) (h2 : L ≤ 257) (h3 : 1 ≤ D) (h4 : D ≤ 4095) : playE most out ⟨0, (L : Int), (D : Int)⟩ = if q < D then 8 else if most - q < L then 6 else 0 := by
  have hm : mayB 0 (L : Int) (D : Int) = true := by
    unfold mayB
    rw [if_neg (by omega)]
    exact decide_eq_true ⟨rfl, by omega, by omega, by omega, by omega⟩
  unfold playE
  rw [if_pos hm, hq]
  show (if (q : Int) < (D : Int) then 8 else if (most : Int) - (q : Int) < max 1 (L : Int) then 6 else 0) = _
  by_cases h : q < D
  · rw [if_pos (by omega), if_pos h]
  · rw [if_neg (by omega), if_neg h]
    by_cases h' : most - q < L
    · rw [if_pos (by omega), if_pos h']
    · rw [if_neg (by omega), if_neg h']
def PlayPost (R : List Nat × Int) (w : World) (e : Ending) (w' : World) : Prop :=
  ∃ v, e = .returned (.tuple #[v, .int .i64 R.2]) ∧ w'.ownsRow w.heap.size 5 1 v R.1.length (numL .u8 R.1) ∧ Below w.heap.size w w'
set_option maxHeartbeats 1000000 in
set_option maxRecDepth 100000 in
theorem play_any (w : World) (A : Option Addr) (n c : Nat) (ts : List Tk) (most : Nat) (hmost : most ≤ 1000000) (hn : ts.length = n) (hN : n ≤ 1000000) (hall : ∀ t ∈ ts, (0 ≤ t.lit ∧ t.lit ≤ 255) ∧ mayB t.lit t.len t.dist = true) (ha : Row w w.heap.size A n 3 (Toks.tokF ts)) :
    Calls Tryz.prog 295 #[.slice A n c, .int .i64 most] w (PlayPost (play ts most) w) := by
  obtain ⟨j0, hj0, hy0, hy1, hy2⟩ := info_parts info_u8
  have hP : play ts most = playT most [] ts := if_neg (by omega)
  rw [hP]
  obtain ⟨R, hR⟩ : ∃ R, R = playT most [] ts := ⟨_, rfl⟩
  rw [← hR]
  obtain ⟨R1, R2⟩ := R
  unfold PlayPost
  have g0 : decide ((most : Int) < 0) = false := by simp
  have HR := Lib.hid hR
  have HA := Lib.hid ha
  have HN := Lib.hid hn
  have HALL := Lib.hid hall
  clear hP hR ha hn hall
  go_enter Tryz.func295, Tryz.ntmps295
  go_wp2_with fail
  go_loopw [6, 13] (fun u i wr => ∃ (k q : Nat) (out : List Nat), k ≤ n ∧ q ≤ most ∧ i = .int .i64 k ∧ Hid (out.length = q) ∧ Hid (wr.ownsRow w.heap.size 5 1 u q (numL .u8 out)) ∧ Hid (playT most out (ts.drop k) = (R1, R2)) ∧ Below w.heap.size w wr) (fun _ i _ => n - (intOf i).toNat)
  case atStart => exact ⟨0, 0, [], by omega, by omega, rfl, rfl, World.ownsRow_nil _ _ _ _, HR.out.symm, Below.refl _ _⟩
  case round =>
    obtain ⟨k, q, out, hk, hq, rfl, HQ, HO, HP, hb⟩ := hrel
    have hz := hb.size
    obtain ⟨va, vc, rfl⟩ := own_shape HO.out
    by_cases hlt : k < n
    · obtain ⟨ob, off, rfl, hbb, hcell⟩ := HA.out (by omega)
      have hkl : k < ts.length := by rw [HN.out]; exact hlt
      have c0 := (hb.cell (p := ⟨ob, _, none⟩) hbb).trans (hcell k 0 hlt (by omega))
      have c1 := (hb.cell (p := ⟨ob, _, none⟩) hbb).trans (hcell k 1 hlt (by omega))
      have c2 := (hb.cell (p := ⟨ob, _, none⟩) hbb).trans (hcell k 2 hlt (by omega))
      simp only [Toks.tokF, List.getD_eq_getElem?_getD, List.getElem?_eq_getElem hkl, Option.getD_some, Nat.add_zero, ← Nat.add_assoc] at c0 c1 c2
      have hp := HP.out
      rw [List.drop_eq_getElem_cons hkl, playT] at hp
      obtain ⟨hl, hm⟩ := HALL.out _ (List.getElem_mem hkl)
      have HM := fun wx => lz_may ts[k] wx
      rw [hm] at HM
      have hcs := may_cases hl hm
      generalize ts[k] = t at *
      have x0 : (0 : Int) ≤ (k : Int) := by omega
      have x1 : (k : Int) < (n : Int) := by omega
      rcases hcs with ⟨x, hx, rfl⟩ | ⟨L, D, hL3, hL, hD1, hD, rfl⟩
      · rw [playE_lit HQ.out hq] at hp
        simp only [Toks.Tk.val_mk] at HM c0 c1 c2
        have HM := Lib.hid HM
        have g1 : decide ((q : Int) < 0) = false := by simp
        have hmx : max (1 : Int) 0 = 1 := by decide
        have s1 : IntKind.i64.wrap ((most : Int) - (q : Int)) = ((most - q : Nat) : Int) := by rw [IntWalk.i64_in _ (by omega)]; omega
        by_cases hlim : most - q < 1
        · rw [if_pos hlim, if_neg (by simp)] at hp
          injection hp with e1 e2
          subst e1 e2
          have g2 : decide (((most - q : Nat) : Int) < 1) = true := by simp; omega
          have g3 : decide (most - q < 1) = true := by simp; omega
          generalize hdm : most - q = dm at *
          have hdm0 : dm = 0 := by omega
          subst hdm0
          clear hdm hm hl HP
          clear hcell hkl
          go_wp2_with fail
          refine (HM.out _).mono ?_
          rintro e w2 ⟨rfl, hb2⟩
          have kk := fun o => hb2.cell (p := ⟨wr.heap.size, o, none⟩) (by simp)
          have b1 := (kk 1).trans rfl
          have HB2 : Hid (Below w.heap.size w w2) := (bel_alloc hz hb).trans (hb2.mono (by simp; omega))
          have b2 := (kk 2).trans rfl
          clear kk
          go_wp2_with fail
          go_ret2
          exact ⟨_, rfl, World.ownsRow_nil _ _ _ _, HB2.out⟩
        · rw [if_neg hlim, if_pos rfl, if_pos rfl, Int.toNat_natCast] at hp
          obtain ⟨dm, hdm⟩ : ∃ dm, dm = most - q := ⟨_, rfl⟩
          rw [← hdm] at s1 hlim
          have g2 : decide ((dm : Int) < 1) = false := by simp; omega
          have g3 : decide (dm < 1) = false := by simp; omega
          have HPP := Lib.hid hp
          have hq2 : q + 1 ≤ most := by omega
          clear hdm hm hl HP hp hlim
          clear hcell hkl
          go_wp2_with fail
          refine (HM.out _).mono ?_
          rintro e w2 ⟨rfl, hb2⟩
          have kk := fun o => hb2.cell (p := ⟨wr.heap.size, o, none⟩) (by simp)
          have b1 := (kk 1).trans rfl
          have HB2 : Hid (Below w.heap.size w w2) := (bel_alloc hz hb).trans (hb2.mono (by simp; omega))
          have b2 := (kk 2).trans rfl
          have b0 := (kk 0).trans rfl
          have HO2 := Lib.hid (own_kept (HO.out.alloc (.cells #[.int .u8 x, .int .i64 0, .int .i64 0] 235)) (fun y hy => hb2.block y (by have := (World.ownsRow.lt HO.out y hy).2; simp; omega)))
          have hz2 := HB2.out.size
          clear kk
          go_wp2_with (at_builtin; refine wpList_app rfl (.tmp 39) (.tmp 42) 22 rfl w.heap.size 5 j0 _ 1 1 Tryz.underlying22 hj0 hy0 hy1 hy2 rfl (by decide) _ _ _ (by rfl) (HO2.out.alloc _) _ 1 1 [.int .u8 x] (by rfl) (Src.of_blk (Blk.made _ _ _) 1 1 1 rfl) (by intro u hu; simp at hu; rcases hu with rfl; rfl) (by unfold maxLen; omega) (by omega) (by simp; omega) ?_; intro v4 w4 hown4 hg4 hat4)
          go_roundw
          case measure => go_light; simp [intOf]; omega
          case rel =>
            go_light
            refine ⟨k + 1, q + 1, out ++ [x], by omega, hq2, by go_num, ?_, ?_, HPP.out, ?_⟩
            · show _ = _; rw [List.length_append, HQ.out]; rfl
            · show World.ownsRow _ _ _ _ _ _ _
              rw [show numL .u8 (out ++ [x]) = numL .u8 out ++ [.int .u8 x] by simp [numL]]
              exact hown4
            · exact (bel_alloc hz2 HB2.out).grown hg4 (by simp; omega) (fun y hy => (World.ownsRow.lt HO2.out y hy).1)
      · rw [playE_match HQ.out hq hL3 hL hD1 hD] at hp
        simp only [Toks.Tk.val_mk] at HM c0 c1 c2
        have HM := Lib.hid HM
        have hmx : max (1 : Int) (L : Int) = (L : Int) := by omega
        have hb0 : ((L : Int) == 0) = false := by rw [Bool.eq_false_iff]; intro h; simp at h; omega
        have s1 : IntKind.i64.wrap ((most : Int) - (q : Int)) = ((most - q : Nat) : Int) := by rw [IntWalk.i64_in _ (by omega)]; omega
        by_cases hfar : q < D
        · rw [if_pos hfar, if_neg (by simp)] at hp
          injection hp with e1 e2
          subst e1 e2
          have g1 : decide ((q : Int) < (D : Int)) = true := by simp; omega
          have g1' : decide (q < D) = true := by simp; omega
          clear hm hl HP
          clear hcell hkl
          go_wp2_with fail
          refine (HM.out _).mono ?_
          rintro e w2 ⟨rfl, hb2⟩
          have kk := fun o => hb2.cell (p := ⟨wr.heap.size, o, none⟩) (by simp)
          have b1 := (kk 1).trans rfl
          have HB2 : Hid (Below w.heap.size w w2) := (bel_alloc hz hb).trans (hb2.mono (by simp; omega))
          have b2 := (kk 2).trans rfl
          clear kk
          go_wp2_with fail
          go_ret2
          exact ⟨_, rfl, World.ownsRow_nil _ _ _ _, HB2.out⟩
        · rw [if_neg hfar] at hp
          have g1 : decide ((q : Int) < (D : Int)) = false := by simp; omega
          have g1' : decide (q < D) = false := by simp; omega
          obtain ⟨dm, hdm⟩ : ∃ dm, dm = most - q := ⟨_, rfl⟩
          rw [← hdm] at s1 hp
          by_cases hlim : dm < L
          · rw [if_pos hlim, if_neg (by simp)] at hp
            injection hp with e1 e2
            subst e1 e2
            have g2 : decide ((dm : Int) < (L : Int)) = true := by simp; omega
            have g3 : decide (dm < L) = true := by simp; omega
            clear hm hl HP hdm
            clear hcell hkl
            go_wp2_with fail
            refine (HM.out _).mono ?_
            rintro e w2 ⟨rfl, hb2⟩
            have kk := fun o => hb2.cell (p := ⟨wr.heap.size, o, none⟩) (by simp)
            have b1 := (kk 1).trans rfl
            have HB2 : Hid (Below w.heap.size w w2) := (bel_alloc hz hb).trans (hb2.mono (by simp; omega))
            have b2 := (kk 2).trans rfl
            clear kk
            go_wp2_with fail
            go_ret2
            exact ⟨_, rfl, World.ownsRow_nil _ _ _ _, HB2.out⟩
          · rw [if_neg hlim, if_pos rfl, if_neg (by show ¬ (L : Int) = 0; omega)] at hp
            replace hp : playT most (copyT out ((L : Int)).toNat ((D : Int)).toNat) (ts.drop (k + 1)) = (R1, R2) := hp
            rw [Int.toNat_natCast, Int.toNat_natCast] at hp
            have g2 : decide ((dm : Int) < (L : Int)) = false := by simp; omega
            have g3 : decide (dm < L) = false := by simp; omega
            have HPP := Lib.hid hp
            have hq2 : q + L ≤ most := by omega
            clear hdm hm hl HP hp hlim
            clear hcell hkl
            go_wp2_with fail
            refine (HM.out _).mono ?_
            rintro e w2 ⟨rfl, hb2⟩
            have kk := fun o => hb2.cell (p := ⟨wr.heap.size, o, none⟩) (by simp)
            have b1 := (kk 1).trans rfl
            have HB2 : Hid (Below w.heap.size w w2) := (bel_alloc hz hb).trans (hb2.mono (by simp; omega))
            have b2 := (kk 2).trans rfl
            have HO2 := Lib.hid (own_kept (HO.out.alloc (.cells #[.int .u8 0, .int .i64 L, .int .i64 D] 235)) (fun y hy => hb2.block y (by have := (World.ownsRow.lt HO.out y hy).2; simp; omega)))
            have HPB : Hid (Blk w2 wr.heap.size 235 #[.int .u8 0, .int .i64 L, .int .i64 D]) := (Blk.made wr _ _).step hb2
            have hz2 := HB2.out.size
            generalize wr.heap.size = pb at *
            clear kk hb2 HO hb c0 c1 c2 HM b1 b2
            have b1 := HPB.out.cell 1
            have b2 := HPB.out.cell 2
            simp only [List.getElem?_toArray, List.getElem?_cons_zero, List.getElem?_cons_succ] at b1 b2
            go_wp2_with fail
            go_loopw [6, 46] (fun u i wx => ∃ j : Nat, j ≤ L ∧ i = .int .i64 j ∧ Hid (wx.ownsRow w.heap.size 5 1 u (q + j) (numL .u8 (copyT out j D))) ∧ Hid (Blk wx pb 235 #[.int .u8 0, .int .i64 L, .int .i64 D]) ∧ Hid (Below w.heap.size w wx)) (fun _ i _ => L - (intOf i).toNat)
            case atStart => exact ⟨0, by omega, rfl, HO2.out, HPB.out, HB2.out⟩
            case round =>
              obtain ⟨j, hj, rfl, HO3, HPB3, HB3⟩ := hrel
              have hz3 := HB3.out.size
              by_cases hjL : j < L
              · obtain ⟨g, cg, rfl, _⟩ := HO3.out.form (by omega)
                have hcl : (copyT out j D).length = q + j := by rw [copyT_length, HQ.out]
                obtain ⟨I, hI⟩ : ∃ I, I = q + j - D := ⟨_, rfl⟩
                have hsn := copyT_snoc j D out
                rw [hcl, ← hI] at hsn
                have hy : (numL .u8 (copyT out j D))[I]? = some (.int .u8 ((copyT out j D).getD I 0 : Nat)) := by
                  simp [numL, List.getD_eq_getElem?_getD, List.getElem?_eq_getElem (show I < (copyT out j D).length by omega)]
                have c9 : wr.cell? ⟨g, I, none⟩ = some (.int .u8 ((copyT out j D).getD I 0 : Nat)) := by
                  have h := HO3.out.cellAt I (by omega)
                  rw [h]
                  exact hy
                generalize (copyT out j D).getD I 0 = y at *
                have k1 := HPB3.out.cell 1
                have k2 := HPB3.out.cell 2
                simp only [List.getElem?_toArray, List.getElem?_cons_zero, List.getElem?_cons_succ] at k1 k2
                have s2 : IntKind.i64.wrap (((q + j : Nat) : Int) - (D : Int)) = (I : Int) := by rw [IntWalk.i64_in _ (by omega)]; omega
                have s3 : IntKind.i64.wrap ((q : Int) + (j : Int) - (D : Int)) = (I : Int) := by rw [IntWalk.i64_in _ (by omega)]; omega
                have y2 : (0 : Int) ≤ (I : Int) := by omega
                have y3 : (I : Int) < ((q + j : Nat) : Int) := by omega
                have HSN := Lib.hid hsn
                clear hcl hI hsn hy b1 b2
                go_wp2_with (at_builtin; refine wpList_app rfl (.tmp 48) (.tmp 57) 22 rfl w.heap.size 5 j0 _ 1 1 Tryz.underlying22 hj0 hy0 hy1 hy2 rfl (by decide) _ _ _ (by rfl) (HO3.out.alloc _) _ 1 1 [.int .u8 y] (by rfl) (Src.of_blk (Blk.made _ _ _) 1 1 1 rfl) (by intro u hu; simp at hu; rcases hu with rfl; rfl) (by unfold maxLen; omega) (by omega) (by simp; omega) ?_; intro v4 w4 hown4 hg4 hat4)
                go_roundw
                case measure => go_light; simp [intOf]; omega
                case rel =>
                  go_light
                  refine ⟨j + 1, by omega, by go_num, ?_, ?_, ?_⟩
                  · show World.ownsRow _ _ _ _ _ _ _
                    rw [HSN.out, show numL .u8 (copyT out j D ++ [y]) = numL .u8 (copyT out j D) ++ [.int .u8 y] by simp [numL]]
                    exact hown4
                  · exact (HPB3.out.alloc _).grown hg4 (fun e => own_blk HO3.out HPB3.out (by decide) e.symm)
                  · exact (bel_alloc hz3 HB3.out).grown hg4 (by simp; omega) (fun y hy => (World.ownsRow.lt HO3.out y hy).1)
              · obtain rfl : j = L := by omega
                have k1 := HPB3.out.cell 1
                simp only [List.getElem?_toArray, List.getElem?_cons_zero, List.getElem?_cons_succ] at k1
                obtain ⟨A5, c5, rfl⟩ := own_shape HO3.out
                clear b1 b2
                go_wp2_with fail
                go_roundw
                case measure => go_light; simp [intOf]; omega
                case rel => go_light; exact ⟨k + 1, q + j, copyT out j D, by omega, hq2, by go_num, by show _ = _; rw [copyT_length, HQ.out], HO3.out, HPP.out, HB3.out⟩
    · obtain rfl : k = n := by omega
      have hp := HP.out
      rw [List.drop_of_length_le (by rw [HN.out]; exact Nat.le_refl _), playT] at hp
      injection hp with e1 e2
      subst e1 e2
      clear HP
      go_wp2_with fail
      go_ret2
      refine ⟨_, rfl, ?_, hb⟩
      rw [HQ.out]
      exact HO.out
end Go.Proofs.YtmgjgkdbagbleaaGreatDoor.Lz
