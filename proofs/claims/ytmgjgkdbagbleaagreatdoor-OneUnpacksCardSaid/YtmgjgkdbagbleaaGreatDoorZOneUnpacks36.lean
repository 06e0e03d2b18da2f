/-
  The walk of firkinref10.Play, on tokens that may be. The reference's reader of a frame; the way of a frame. The walk of the law BlockReads.
-/
import Derived.Test.YtmgjgkdbagbleaaGreatDoorZOneUnpacks19
import Derived.Test.YtmgjgkdbagbleaaGreatDoorZOneUnpacks17
import Derived.Test.YtmgjgkdbagbleaaGreatDoorZOneUnpacks33
import Derived.Test.YtmgjgkdbagbleaaGreatDoorZOneUnpacks35
import Derived.Test.YtmgjgkdbagbleaaGreatDoorZOneUnpacks32
import Derived.Test.YtmgjgkdbagbleaaGreatDoorZOneUnpacks26
namespace Go.Proofs.YtmgjgkdbagbleaaGreatDoor.Lz
open Go.RowKit Go.Proofs.YtmgjgkdbagbleaaGreatDoor.Mem Go.Proofs.YtmgjgkdbagbleaaGreatDoor.Own Go.Proofs.YtmgjgkdbagbleaaGreatDoor.Canon
open Go.Proofs.YtmgjgkdbagbleaaGreatDoor.Toks (Tk mayB ref_may)
theorem playE_nat {most q x L D : Nat} {out : List Nat} (hq : out.length = q) (hm : mayB (x : Int) (L : Int) (D : Int) = true) : playE most out ⟨(x : Int), (L : Int), (D : Int)⟩ = if q < D then 8 else if most < q + max 1 L then 6 else 0 := by
  unfold playE
  rw [if_pos hm, hq]
  show (if (q : Int) < (D : Int) then 8 else if (most : Int) - (q : Int) < max 1 (L : Int) then 6 else 0) = _
  by_cases h : q < D
  · rw [if_pos (by omega), if_pos h]
  · rw [if_neg (by omega), if_neg h]
    by_cases h' : most < q + max 1 L
    · rw [if_pos (by omega), if_pos h']
    · rw [if_neg (by omega), if_neg h']
theorem may_nat {t : Tk} (hl : 0 ≤ t.lit ∧ t.lit ≤ 255) (h : mayB t.lit t.len t.dist = true) :
    ∃ x L D : Nat, t = ⟨(x : Int), (L : Int), (D : Int)⟩ ∧ x ≤ 255 ∧ L ≤ 257 ∧ D ≤ 4095 ∧ (0 < L → 1 ≤ D) ∧ (L = 0 → D = 0) := by
  rcases may_cases hl h with ⟨x, hx, rfl⟩ | ⟨L, D, h1, h2, h3, h4, rfl⟩
  · exact ⟨x, 0, 0, rfl, hx, by omega, by omega, by omega, fun _ => rfl⟩
  · exact ⟨0, L, D, rfl, by omega, h2, h4, fun _ => h3, by omega⟩
set_option maxHeartbeats 2000000 in
set_option maxRecDepth 100000 in
theorem rplay_any (w : World) (A : Option Addr) (n c : Nat) (ts : List Tk) (most : Nat) (hmost : most ≤ 1000000) (hn : ts.length = n) (hN : n ≤ 1000000) (hall : ∀ t ∈ ts, (0 ≤ t.lit ∧ t.lit ≤ 255) ∧ mayB t.lit t.len t.dist = true) (ha : Row w w.heap.size A n 3 (Toks.tokF ts)) :
    Calls Tryz.prog 137 #[.slice A n c, .int .i64 most] w (PlayPost (play ts most) w) := by
  obtain ⟨j0, hj0, hy0, hy1, hy2⟩ := info_parts info_u8
  have hP : play ts most = playT most [] ts := if_neg (by omega)
  rw [hP]
  obtain ⟨R, hR⟩ : ∃ R, R = playT most [] ts := ⟨_, rfl⟩
  rw [← hR]
  obtain ⟨R1, R2⟩ := R
  unfold PlayPost
  have g0 : decide ((most : Int) < 0) = false := by simp
  have HR := Lib.hid hR
  have HA := Lib.hid ha
  have HN := Lib.hid hn
  have HALL := Lib.hid hall
  clear hP hR ha hn hall
  go_enter Tryz.func137, Tryz.ntmps137
  go_wp2_with fail
  go_loopw [6, 7] (fun u i wr => ∃ (k q : Nat) (out : List Nat), k ≤ n ∧ q ≤ most ∧ i = .int .i64 k ∧ Hid (out.length = q) ∧ Hid (wr.ownsRow w.heap.size 5 1 u q (numL .u8 out)) ∧ Hid (playT most out (ts.drop k) = (R1, R2)) ∧ Below w.heap.size w wr) (fun _ i _ => n - (intOf i).toNat)
  case atStart => exact ⟨0, 0, [], by omega, by omega, rfl, rfl, World.ownsRow_nil _ _ _ _, HR.out.symm, Below.refl _ _⟩
  case round =>
    obtain ⟨k, q, out, hk, hq, rfl, HQ, HO, HP, hb⟩ := hrel
    obtain ⟨w0, rfl⟩ : ∃ w0 : World, w0 = wr := ⟨_, rfl⟩
    have hz := hb.size
    have HB := Lib.hid hb
    obtain ⟨va, vc, rfl⟩ := own_shape HO.out
    by_cases hlt : k < n
    · obtain ⟨ob, off, rfl, hbb, hcell⟩ := HA.out (by omega)
      have hkl : k < ts.length := by rw [HN.out]; exact hlt
      have c0 := hcell k 0 hlt (by omega)
      have c1 := hcell k 1 hlt (by omega)
      have c2 := hcell k 2 hlt (by omega)
      simp only [Toks.tokF, List.getD_eq_getElem?_getD, List.getElem?_eq_getElem hkl, Option.getD_some, Nat.add_zero, ← Nat.add_assoc] at c0 c1 c2
      have hp := HP.out
      rw [List.drop_eq_getElem_cons hkl, playT] at hp
      obtain ⟨hl, hm⟩ := HALL.out _ (List.getElem_mem hkl)
      have HM := fun wx => ref_may ts[k] wx
      rw [hm] at HM
      obtain ⟨x, L, D, ht, hx8, hL8, hD8, hLD, hL0D⟩ := may_nat hl hm
      rw [ht] at HM c0 c1 c2 hp hm
      simp only [Toks.Tk.val_mk] at HM c0 c1 c2
      rw [playE_nat HQ.out hm] at hp
      have HM := Lib.hid HM
      have HLD := Lib.hid hLD
      have C0 := Lib.hid c0
      have C1 := Lib.hid c1
      have C2 := Lib.hid c2
      clear hcell hkl hl hm ht hLD
      have c0 := (hb.cell (p := ⟨ob, _, none⟩) hbb).trans C0.out
      have c1 := (hb.cell (p := ⟨ob, _, none⟩) hbb).trans C1.out
      have c2 := (hb.cell (p := ⟨ob, _, none⟩) hbb).trans C2.out
      have x0 : (0 : Int) ≤ (k : Int) := by omega
      have x1 : (k : Int) < (n : Int) := by omega
      by_cases hfar : q < D
      · rw [if_pos hfar, if_neg (by simp)] at hp
        injection hp with e1 e2
        subst e1 e2
        have g1 : decide ((q : Int) < (D : Int)) = true := by simp; omega
        have g1' : decide (q < D) = true := by simp; omega
        clear hL0D hfar
        clear HP hb
        go_wp2_with fail
        refine (HM.out _).mono ?_
        rintro e w2 ⟨rfl, hb2⟩
        clear c0 c1 c2
        have HBM := Lib.hid (HB.out.trans (hb2.mono hz))
        have c0 := (HBM.out.cell (p := ⟨ob, _, none⟩) hbb).trans C0.out
        have c1 := (HBM.out.cell (p := ⟨ob, _, none⟩) hbb).trans C1.out
        have c2 := (HBM.out.cell (p := ⟨ob, _, none⟩) hbb).trans C2.out
        have HO1 := Lib.hid (own_kept HO.out (fun y hy => hb2.block y (World.ownsRow.lt HO.out y hy).2))
        clear hb2 HO HM HB
        go_wp2_with fail
        go_ret2
        exact ⟨_, rfl, World.ownsRow_nil _ _ _ _, HBM.out⟩
      · rw [if_neg hfar] at hp
        have g1 : decide ((q : Int) < (D : Int)) = false := by simp; omega
        have g1' : decide (q < D) = false := by simp; omega
        by_cases hL0 : L = 0
        · have gz : ((L : Int) == 0) = true := by simp [hL0]
          have gz' : (L == 0) = true := by simp [hL0]
          have s1 : IntKind.i64.wrap ((q : Int) + 1) = ((q + 1 : Nat) : Int) := by rw [IntWalk.i64_in _ (by omega)]; omega
          by_cases hlim : most < q + 1
          · rw [if_pos (show most < q + max 1 L by omega), if_neg (by simp)] at hp
            injection hp with e1 e2
            subst e1 e2
            have g2 : decide ((most : Int) < ((q + 1 : Nat) : Int)) = true := by simp; omega
            have g2' : decide (most < q + 1) = true := by simp; omega
            obtain ⟨q1, hq1⟩ : ∃ q1, q1 = q + 1 := ⟨_, rfl⟩
            rw [← hq1] at s1 g2 g2'
            clear hL0D hfar hL0 hlim hq1
            clear HP hb
            go_wp2_with fail
            refine (HM.out _).mono ?_
            rintro e w2 ⟨rfl, hb2⟩
            clear c0 c1 c2
            have HBM := Lib.hid (HB.out.trans (hb2.mono hz))
            have c0 := (HBM.out.cell (p := ⟨ob, _, none⟩) hbb).trans C0.out
            have c1 := (HBM.out.cell (p := ⟨ob, _, none⟩) hbb).trans C1.out
            have c2 := (HBM.out.cell (p := ⟨ob, _, none⟩) hbb).trans C2.out
            have HO1 := Lib.hid (own_kept HO.out (fun y hy => hb2.block y (World.ownsRow.lt HO.out y hy).2))
            clear hb2 HO HM HB
            go_wp2_with fail
            go_ret2
            exact ⟨_, rfl, World.ownsRow_nil _ _ _ _, HBM.out⟩
          · rw [if_neg (show ¬ most < q + max 1 L by omega), if_pos rfl, if_pos (by show (L : Int) = 0; omega)] at hp
            have hp2 : playT most (copyT (out ++ [x]) L D) (ts.drop (k + 1)) = (R1, R2) := by rw [hL0]; exact hp
            have g2 : decide ((most : Int) < ((q + 1 : Nat) : Int)) = false := by simp; omega
            have g2' : decide (most < q + 1) = false := by simp; omega
            have HPP := Lib.hid hp2
            have hq2 : q + 1 + L ≤ most := by omega
            obtain ⟨q2, hq1⟩ : ∃ q2, q2 = q + 1 := ⟨_, rfl⟩
            have HQ2 : Hid ((out ++ [x]).length = q2) := by show _ = _; rw [List.length_append, HQ.out, hq1]; rfl
            have HQ1 := Lib.hid hq1
            rw [← hq1] at s1 g2 g2' hq2
            have HLD : Hid (0 < L → D ≤ q2 ∧ 1 ≤ D) := fun h => by omega
            obtain ⟨out2, ho2⟩ : ∃ out2, out2 = out ++ [x] := ⟨_, rfl⟩
            have HOE := Lib.hid ho2
            rw [← ho2] at HPP HQ2
            clear hL0D hfar hL0 hlim hq1 hp hp2 ho2
            clear HP hb
            go_wp2_with fail
            refine (HM.out _).mono ?_
            rintro e w2 ⟨rfl, hb2⟩
            clear c0 c1 c2
            have HBM := Lib.hid (HB.out.trans (hb2.mono hz))
            have c0 := (HBM.out.cell (p := ⟨ob, _, none⟩) hbb).trans C0.out
            have c1 := (HBM.out.cell (p := ⟨ob, _, none⟩) hbb).trans C1.out
            have c2 := (HBM.out.cell (p := ⟨ob, _, none⟩) hbb).trans C2.out
            have HO1 := Lib.hid (own_kept HO.out (fun y hy => hb2.block y (World.ownsRow.lt HO.out y hy).2))
            clear hb2 HO HM HB
            have hz2 := HBM.out.size
            go_wp2_with (at_builtin; refine wpList_app rfl (.tmp 52) (.tmp 58) 22 rfl w.heap.size 5 j0 _ 1 1 Tryz.underlying22 hj0 hy0 hy1 hy2 rfl (by decide) _ _ _ (by rfl) (HO1.out.alloc _) _ 1 1 [.int .u8 x] (by rfl) (Src.of_blk (Blk.made _ _ _) 1 1 1 rfl) (by intro u hu; simp at hu; rcases hu with rfl; rfl) (by unfold maxLen; omega) (by omega) (by simp; omega) ?_; intro v4 w4 hown4 hg4 hat4)
            have HB2 := Lib.hid ((bel_alloc hz2 HBM.out).grown hg4 (by simp; omega) (fun y hy => (World.ownsRow.lt HO1.out y hy).1))
            have HO2 : Hid (w4.ownsRow w.heap.size 5 1 v4 (q2 + 0) (numL .u8 (copyT out2 0 D))) := by
              rw [Nat.add_zero, HQ1.out]
              show World.ownsRow _ _ _ _ _ _ (numL .u8 out2)
              rw [HOE.out, show numL .u8 (out ++ [x]) = numL .u8 out ++ [.int .u8 x] by simp [numL]]
              exact hown4
            clear hown4 hg4 hat4 HO1 c0 c1 c2
            go_wp2_with fail
            go_loopw [6, 9] (fun u i wx => ∃ j : Nat, j ≤ L ∧ i = .int .i64 j ∧ Hid (wx.ownsRow w.heap.size 5 1 u (q2 + j) (numL .u8 (copyT out2 j D))) ∧ Hid (Below w.heap.size w wx)) (fun _ i _ => L - (intOf i).toNat)
            case atStart => exact ⟨0, by omega, rfl, HO2.out, HB2.out⟩
            case round =>
              obtain ⟨j, hj, rfl, HO3, HB3⟩ := hrel
              have hz3 := HB3.out.size
              have k1 := (HB3.out.cell (p := ⟨ob, _, none⟩) hbb).trans C1.out
              have k2 := (HB3.out.cell (p := ⟨ob, _, none⟩) hbb).trans C2.out
              by_cases hjL : j < L
              · have hLD := HLD.out (by omega)
                obtain ⟨g, cg, rfl, _⟩ := HO3.out.form (by omega)
                have hcl : (copyT out2 j D).length = q2 + j := by rw [copyT_length, HQ2.out]
                obtain ⟨I, hI⟩ : ∃ I, I = q2 + j - D := ⟨_, rfl⟩
                have hsn := copyT_snoc j D out2
                rw [hcl, ← hI] at hsn
                have hy : (numL .u8 (copyT out2 j D))[I]? = some (.int .u8 ((copyT out2 j D).getD I 0 : Nat)) := by
                  simp [numL, List.getD_eq_getElem?_getD, List.getElem?_eq_getElem (show I < (copyT out2 j D).length by omega)]
                have c9 : wr.cell? ⟨g, I, none⟩ = some (.int .u8 ((copyT out2 j D).getD I 0 : Nat)) := by
                  have h := HO3.out.cellAt I (by omega)
                  rw [h]
                  exact hy
                generalize (copyT out2 j D).getD I 0 = y at *
                have s2 : IntKind.i64.wrap (((q2 + j : Nat) : Int) - (D : Int)) = (I : Int) := by rw [IntWalk.i64_in _ (by omega)]; omega
                have s3 : IntKind.i64.wrap ((q2 : Int) + (j : Int) - (D : Int)) = (I : Int) := by rw [IntWalk.i64_in _ (by omega)]; omega
                have y2 : (0 : Int) ≤ (I : Int) := by omega
                have y3 : (I : Int) < ((q2 + j : Nat) : Int) := by omega
                have HSN := Lib.hid hsn
                clear hcl hI hsn hy hLD
                go_wp2_with (at_builtin; refine wpList_app rfl (.tmp 80) (.tmp 82) 22 rfl w.heap.size 5 j0 _ 1 1 Tryz.underlying22 hj0 hy0 hy1 hy2 rfl (by decide) _ _ _ (by rfl) (HO3.out.alloc _) _ 1 1 [.int .u8 y] (by rfl) (Src.of_blk (Blk.made _ _ _) 1 1 1 rfl) (by intro u hu; simp at hu; rcases hu with rfl; rfl) (by unfold maxLen; omega) (by omega) (by simp; omega) ?_; intro v4 w4 hown4 hg4 hat4)
                go_roundw
                case measure => go_light; simp [intOf]; omega
                case rel =>
                  go_light
                  refine ⟨j + 1, by omega, by go_num, ?_, ?_⟩
                  · show World.ownsRow _ _ _ _ _ _ _
                    rw [HSN.out, show numL .u8 (copyT out2 j D ++ [y]) = numL .u8 (copyT out2 j D) ++ [.int .u8 y] by simp [numL]]
                    exact hown4
                  · exact (bel_alloc hz3 HB3.out).grown hg4 (by simp; omega) (fun y hy => (World.ownsRow.lt HO3.out y hy).1)
              · obtain rfl : j = L := by omega
                obtain ⟨A5, c5, rfl⟩ := own_shape HO3.out
                go_wp2_with fail
                go_roundw
                case measure => go_light; simp [intOf]; omega
                case rel => go_light; exact ⟨k + 1, q2 + j, copyT out2 j D, by omega, hq2, by go_num, by show _ = _; rw [copyT_length, HQ2.out], HO3.out, HPP.out, HB3.out⟩
        · have gz : ((L : Int) == 0) = false := by rw [beq_eq_false_iff_ne]; omega
          have gz' : (L == 0) = false := by rw [beq_eq_false_iff_ne]; omega
          have s1 : IntKind.i64.wrap ((q : Int) + (L : Int)) = ((q + L : Nat) : Int) := by rw [IntWalk.i64_in _ (by omega)]; omega
          by_cases hlim : most < q + L
          · rw [if_pos (show most < q + max 1 L by omega), if_neg (by simp)] at hp
            injection hp with e1 e2
            subst e1 e2
            have g2 : decide ((most : Int) < ((q + L : Nat) : Int)) = true := by simp; omega
            have g2' : decide (most < q + L) = true := by simp; omega
            obtain ⟨q1, hq1⟩ : ∃ q1, q1 = q + L := ⟨_, rfl⟩
            rw [← hq1] at s1 g2 g2'
            clear hL0D hfar hL0 hlim hq1
            clear HP hb
            go_wp2_with fail
            refine (HM.out _).mono ?_
            rintro e w2 ⟨rfl, hb2⟩
            clear c0 c1 c2
            have HBM := Lib.hid (HB.out.trans (hb2.mono hz))
            have c0 := (HBM.out.cell (p := ⟨ob, _, none⟩) hbb).trans C0.out
            have c1 := (HBM.out.cell (p := ⟨ob, _, none⟩) hbb).trans C1.out
            have c2 := (HBM.out.cell (p := ⟨ob, _, none⟩) hbb).trans C2.out
            have HO1 := Lib.hid (own_kept HO.out (fun y hy => hb2.block y (World.ownsRow.lt HO.out y hy).2))
            clear hb2 HO HM HB
            go_wp2_with fail
            go_ret2
            exact ⟨_, rfl, World.ownsRow_nil _ _ _ _, HBM.out⟩
          · rw [if_neg (show ¬ most < q + max 1 L by omega), if_pos rfl, if_neg (by show ¬ (L : Int) = 0; omega)] at hp
            have hp2 : playT most (copyT out L D) (ts.drop (k + 1)) = (R1, R2) := hp
            have g2 : decide ((most : Int) < ((q + L : Nat) : Int)) = false := by simp; omega
            have g2' : decide (most < q + L) = false := by simp; omega
            have HPP := Lib.hid hp2
            obtain ⟨q1, hq1⟩ : ∃ q1, q1 = q + L := ⟨_, rfl⟩
            rw [← hq1] at s1 g2 g2'
            obtain ⟨q2, rfl⟩ : ∃ q2, q2 = q := ⟨_, rfl⟩
            obtain ⟨out2, rfl⟩ : ∃ out2, out2 = out := ⟨_, rfl⟩
            have hq2 : q2 + L ≤ most := by omega
            have HQ2 := HQ
            have hLD2 := HLD.out
            have HLD : Hid (0 < L → D ≤ q2 ∧ 1 ≤ D) := fun h => ⟨by omega, hLD2 h⟩
            clear hL0D hfar hL0 hlim hq1 hp hp2 hLD2
            clear HP hb
            go_wp2_with fail
            refine (HM.out _).mono ?_
            rintro e w2 ⟨rfl, hb2⟩
            clear c0 c1 c2
            have HBM := Lib.hid (HB.out.trans (hb2.mono hz))
            have c0 := (HBM.out.cell (p := ⟨ob, _, none⟩) hbb).trans C0.out
            have c1 := (HBM.out.cell (p := ⟨ob, _, none⟩) hbb).trans C1.out
            have c2 := (HBM.out.cell (p := ⟨ob, _, none⟩) hbb).trans C2.out
            have HO1 := Lib.hid (own_kept HO.out (fun y hy => hb2.block y (World.ownsRow.lt HO.out y hy).2))
            clear hb2 HO HM HB
            have HB2 := HBM
            have HO2 : Hid (w2.ownsRow w.heap.size 5 1 (.slice va q2 vc) (q2 + 0) (numL .u8 (copyT out2 0 D))) := by
              rw [Nat.add_zero]
              exact HO1.out
            go_wp2_with fail
            go_loopw [6, 9] (fun u i wx => ∃ j : Nat, j ≤ L ∧ i = .int .i64 j ∧ Hid (wx.ownsRow w.heap.size 5 1 u (q2 + j) (numL .u8 (copyT out2 j D))) ∧ Hid (Below w.heap.size w wx)) (fun _ i _ => L - (intOf i).toNat)
            case atStart => exact ⟨0, by omega, rfl, HO2.out, HB2.out⟩
            case round =>
              obtain ⟨j, hj, rfl, HO3, HB3⟩ := hrel
              have hz3 := HB3.out.size
              have k1 := (HB3.out.cell (p := ⟨ob, _, none⟩) hbb).trans C1.out
              have k2 := (HB3.out.cell (p := ⟨ob, _, none⟩) hbb).trans C2.out
              by_cases hjL : j < L
              · have hLD := HLD.out (by omega)
                obtain ⟨g, cg, rfl, _⟩ := HO3.out.form (by omega)
                have hcl : (copyT out2 j D).length = q2 + j := by rw [copyT_length, HQ2.out]
                obtain ⟨I, hI⟩ : ∃ I, I = q2 + j - D := ⟨_, rfl⟩
                have hsn := copyT_snoc j D out2
                rw [hcl, ← hI] at hsn
                have hy : (numL .u8 (copyT out2 j D))[I]? = some (.int .u8 ((copyT out2 j D).getD I 0 : Nat)) := by
                  simp [numL, List.getD_eq_getElem?_getD, List.getElem?_eq_getElem (show I < (copyT out2 j D).length by omega)]
                have c9 : wr.cell? ⟨g, I, none⟩ = some (.int .u8 ((copyT out2 j D).getD I 0 : Nat)) := by
                  have h := HO3.out.cellAt I (by omega)
                  rw [h]
                  exact hy
                generalize (copyT out2 j D).getD I 0 = y at *
                have s2 : IntKind.i64.wrap (((q2 + j : Nat) : Int) - (D : Int)) = (I : Int) := by rw [IntWalk.i64_in _ (by omega)]; omega
                have s3 : IntKind.i64.wrap ((q2 : Int) + (j : Int) - (D : Int)) = (I : Int) := by rw [IntWalk.i64_in _ (by omega)]; omega
                have y2 : (0 : Int) ≤ (I : Int) := by omega
                have y3 : (I : Int) < ((q2 + j : Nat) : Int) := by omega
                have HSN := Lib.hid hsn
                clear hcl hI hsn hy hLD
                go_wp2_with (at_builtin; refine wpList_app rfl (.tmp 80) (.tmp 82) 22 rfl w.heap.size 5 j0 _ 1 1 Tryz.underlying22 hj0 hy0 hy1 hy2 rfl (by decide) _ _ _ (by rfl) (HO3.out.alloc _) _ 1 1 [.int .u8 y] (by rfl) (Src.of_blk (Blk.made _ _ _) 1 1 1 rfl) (by intro u hu; simp at hu; rcases hu with rfl; rfl) (by unfold maxLen; omega) (by omega) (by simp; omega) ?_; intro v4 w4 hown4 hg4 hat4)
                go_roundw
                case measure => go_light; simp [intOf]; omega
                case rel =>
                  go_light
                  refine ⟨j + 1, by omega, by go_num, ?_, ?_⟩
                  · show World.ownsRow _ _ _ _ _ _ _
                    rw [HSN.out, show numL .u8 (copyT out2 j D ++ [y]) = numL .u8 (copyT out2 j D) ++ [.int .u8 y] by simp [numL]]
                    exact hown4
                  · exact (bel_alloc hz3 HB3.out).grown hg4 (by simp; omega) (fun y hy => (World.ownsRow.lt HO3.out y hy).1)
              · obtain rfl : j = L := by omega
                obtain ⟨A5, c5, rfl⟩ := own_shape HO3.out
                go_wp2_with fail
                go_roundw
                case measure => go_light; simp [intOf]; omega
                case rel => go_light; exact ⟨k + 1, q2 + j, copyT out2 j D, by omega, hq2, by go_num, by show _ = _; rw [copyT_length, HQ2.out], HO3.out, HPP.out, HB3.out⟩
    · obtain rfl : k = n := by omega
      have hp := HP.out
      rw [List.drop_of_length_le (by rw [HN.out]; exact Nat.le_refl _), playT] at hp
      injection hp with e1 e2
      subst e1 e2
      clear HP
      go_wp2_with fail
      go_ret2
      refine ⟨_, rfl, ?_, hb⟩
      rw [HQ.out]
      exact HO.out
end Go.Proofs.YtmgjgkdbagbleaaGreatDoor.Lz
namespace Go.Proofs.YtmgjgkdbagbleaaGreatDoor.Block
open Go.RowKit Go.Proofs.YtmgjgkdbagbleaaGreatDoor.Mem Go.Proofs.YtmgjgkdbagbleaaGreatDoor.Own Go.Proofs.YtmgjgkdbagbleaaGreatDoor.Canon
open Go.Proofs.YtmgjgkdbagbleaaGreatDoor.Nums Go.Proofs.YtmgjgkdbagbleaaGreatDoor.Crc
open Go.Proofs.YtmgjgkdbagbleaaGreatDoor.Huff (readToks tksL TRPost rtread_any)
open Go.Proofs.YtmgjgkdbagbleaaGreatDoor.Toks (Tk mayB)
theorem takeE_zero' {bs : List Nat} {at_ n : Nat} {er : Int} (h : takeE bs at_ er n = 0) : er = 0 ∧ n ≤ bs.length - at_ := by
  unfold takeE at h
  split at h
  · contradiction
  · rename_i h0
    split at h
    · cases h
    · exact ⟨by simpa using h0, by omega⟩
theorem h8_zero {bs : List Nat} (hb : ∀ x ∈ bs, x ≤ 255) (h : hE8 bs = 0) : hA3 bs + hP bs + 4 ≤ bs.length ∧ hA5 bs = hA3 bs + hP bs + 4 ∧ hBody bs = (bs.drop (hA3 bs)).take (hP bs) := by
  unfold hE8 at h
  split at h
  · contradiction
  · rename_i h7
    have h7 : hE7 bs = 0 := by simpa using h7
    obtain ⟨h6, l6⟩ := takeE_zero' h7
    obtain ⟨h5, l5⟩ := takeE_zero' h6
    have hA4 : hA4 bs = hA3 bs + hP bs := by unfold Block.hA4; rw [h5, takeA0, if_neg (by omega)]
    have h3 := hA3_le hb
    have h4 := hA4_le hb
    refine ⟨by omega, ?_, ?_⟩
    · unfold hA5; rw [h6, takeA0, if_neg (by omega), hA4]
    · unfold hBody; rw [h5, take0, if_neg (by omega)]
theorem hdR0 (x : Nat) : hdR 0 x = x := rfl
theorem op_byO {bs : List Nat} (h : hE8 bs = 0) : opE bs = byE (hWay bs) (hN bs) (hP bs) (hBody bs) ∧ opO bs = byO (hWay bs) (hN bs) (hP bs) (hBody bs) ∧ opA bs = if byE (hWay bs) (hN bs) (hP bs) (hBody bs) ≠ 0 then 0 else hA5 bs := by
  have e : opE bs = byE (hWay bs) (hN bs) (hP bs) (hBody bs) := by unfold opE; rw [h, if_neg (by simp)]
  refine ⟨e, ?_, ?_⟩
  · unfold opO
    rw [e]
    split
    · rename_i h0
      unfold byO
      rw [if_pos h0]
    · rfl
  · unfold opA
    rw [e]
set_option maxHeartbeats 2000000 in
set_option maxRecDepth 100000 in
theorem rread12_any (w : World) (X : Option Addr) (nX dX : Nat) (bs : List Nat) (hn : bs.length = nX) (hle : nX ≤ 100000) (hd : nX ≤ dX) (hX : X = none → nX = 0 ∧ dX = 0) (hXo : 0 < nX → ∀ a, X = some a → a.add 0 = a) (h8 : ∀ x ∈ bs, x ≤ 255) (ha : Row w w.heap.size X nX 1 (numF .u8 bs)) :
    Calls Tryz.prog 70 #[.slice X nX dX] w (ReadPost bs w) := by
  obtain ⟨j0, hj0, hy0, hy1, hy2⟩ := info_parts info_u8
  have C0 := Lib.hid (rhead_any w X nX dX bs hn hle hd hX hXo h8 ha)
  unfold HeadPost at C0
  unfold ReadPost
  by_cases he8 : hE8 bs = 0
  · rw [he8] at C0
    simp only [hdR0] at C0
    obtain ⟨z1, z2, z3⟩ := h8_zero h8 he8
    obtain ⟨o1, o2, o3⟩ := op_byO he8
    rw [o1, o2, o3]
    have hn8 := hN_le h8
    have hp8 := hP_le h8
    have hb8 : ∀ x ∈ hBody bs, x ≤ 255 := fun x hx => by
      unfold hBody at hx
      exact h8 x (takeO_mem hx)
    have hbl : (hBody bs).length = hP bs := by rw [z3, List.length_take, List.length_drop]; omega
    have HSR : Hid (∀ wx, Below w.heap.size w wx → Src wx (cutA X (hA3 bs) dX 1) (hP bs) (dX - hA3 bs) 1 (numL .u8 (hBody bs))) := fun wx hb => by
      rw [z3]
      exact src_mid ((ha.below hb).mono hb.size) hn (by omega) hd hX
    have ks := fun wx => run_cut2 (P := Tryz.prog) (t := 22) (s := 1) Tryz.underlying22 (fun _ => by kernel_rfl) X nX dX .i64 .i64 ((hA3 bs : Nat) : Int) ((hA3 bs + hP bs : Nat) : Int) (hA3 bs) (hA3 bs + hP bs) rfl rfl (by omega) (by omega) wx
    rw [Nat.add_sub_cancel_left] at ks
    clear h8 ha hX hXo he8 o1 o2 o3 z3
    rw [z2]
    generalize hWay bs = way at *
    generalize hN bs = n at *
    generalize hP bs = p at *
    generalize hA3 bs = a3 at *
    generalize hBody bs = bO at *
    have s1 : IntKind.i64.wrap ((a3 : Int) + (p : Int)) = ((a3 + p : Nat) : Int) := by rw [IntWalk.i64_in _ (by omega)]; omega
    obtain ⟨ap, hap⟩ : ∃ ap, ap = a3 + p := ⟨_, rfl⟩
    rw [← hap] at s1 ks z1 ⊢
    have s2 : IntKind.i64.wrap ((ap : Int) + 4) = ((ap + 4 : Nat) : Int) := by rw [IntWalk.i64_in _ (by omega)]; omega
    obtain ⟨a5, ha5⟩ : ∃ a5, a5 = ap + 4 := ⟨_, rfl⟩
    rw [← ha5] at s2 z1 ⊢
    have HBL := Lib.hid hbl
    clear z2 hap ha5
    by_cases hw : way = 0
    · subst hw
      by_cases hnp : n = p
      · subst hnp
        have hE : byE 0 n n bO = 0 := by unfold byE; rw [if_pos rfl, if_neg (by simp)]
        have hO : byO 0 n n bO = bO := by unfold byO; rw [hE, if_neg (by simp), if_pos rfl]
        rw [hE, hO, if_neg (by simp)]
        have g1 : ((n : Int) != (n : Int)) = false := by simp
        obtain ⟨p, hp⟩ : ∃ p, p = n := ⟨n, rfl⟩
        have HPN := Lib.hid hp
        rw [← hp] at C0 ks s1 HSR HBL g1 hn8 hp8 hbl
        clear hE hO hbl hp hb8
        go_enter Tryz.func70, Tryz.ntmps70
        go_wp2_with fail
        refine C0.out.mono ?_
        rintro e w1 ⟨rfl, hb1⟩
        have HB1 := Lib.hid hb1
        have HB2 : Hid (Below w.heap.size w (w1.alloc (.cells #[] 5))) := bel_alloc0 HB1.out
        have HO := Lib.hid (own_start (w := w1) (base := w.heap.size) HB1.out.size)
        have HS := Lib.hid (HSR.out _ HB2.out)
        have hz1 := HB2.out.size
        clear hb1 C0 HSR
        go_wp2_with (at_builtin; refine wpList_app rfl (.tmp 24) (.tmp 30) 22 rfl w.heap.size 5 j0 _ 1 1 Tryz.underlying22 hj0 hy0 hy1 hy2 rfl (by decide) _ _ _ (by rfl) HO.out _ _ _ _ (by rfl) HS.out (numL_one _ _) (by unfold maxLen; omega) (by omega) hz1 ?_; intro v4 w4 hown4 hg4 hat4; have HB4 : Hid (Below w.heap.size w w4) := HB2.out.grown hg4 hz1 (fun y hy => (World.ownsRow.lt HO.out y hy).1); have HO4 : Hid (w4.ownsRow w.heap.size 5 1 v4 p (numL .u8 bO)) := (by have h := hown4; rw [Nat.zero_add] at h; exact h); obtain ⟨A4, c4, rfl⟩ := own_shape HO4.out; clear hown4 hg4 hat4)
        go_ret3
        exact ⟨_, rfl, by rw [HBL.out]; exact HO4.out, HB4.out⟩
      · have hE : byE 0 n p bO = 2 := by unfold byE; rw [if_pos rfl, if_pos hnp]
        have hO : byO 0 n p bO = [] := by unfold byO; rw [hE, if_pos (by simp)]
        rw [hE, hO, if_pos (by simp)]
        have g1 : ((n : Int) != (p : Int)) = true := by simp; omega
        clear hE hO hnp hbl hb8
        go_enter Tryz.func70, Tryz.ntmps70
        go_wp2_with fail
        refine C0.out.mono ?_
        rintro e w1 ⟨rfl, hb1⟩
        have HB1 := Lib.hid hb1
        have HB2 : Hid (Below w.heap.size w (w1.alloc (.cells #[] 5))) := bel_alloc0 HB1.out
        have HO := Lib.hid (own_start (w := w1) (base := w.heap.size) HB1.out.size)
        have HS := Lib.hid (HSR.out _ HB2.out)
        have hz1 := HB2.out.size
        clear hb1 C0 HSR
        go_wp2_with (at_builtin; refine wpList_app rfl (.tmp 24) (.tmp 30) 22 rfl w.heap.size 5 j0 _ 1 1 Tryz.underlying22 hj0 hy0 hy1 hy2 rfl (by decide) _ _ _ (by rfl) HO.out _ _ _ _ (by rfl) HS.out (numL_one _ _) (by unfold maxLen; omega) (by omega) hz1 ?_; intro v4 w4 hown4 hg4 hat4; have HB4 : Hid (Below w.heap.size w w4) := HB2.out.grown hg4 hz1 (fun y hy => (World.ownsRow.lt HO.out y hy).1); have HO4 : Hid (w4.ownsRow w.heap.size 5 1 v4 p (numL .u8 bO)) := (by have h := hown4; rw [Nat.zero_add] at h; exact h); obtain ⟨A4, c4, rfl⟩ := own_shape HO4.out; clear hown4 hg4 hat4)
        go_ret3
        exact ⟨_, rfl, World.ownsRow_nil _ _ _ _, HB4.out⟩
    · have g0 : ((way : Int) == 0) = false := by rw [Bool.eq_false_iff]; intro h; simp at h; omega
      have C1 : Hid (∀ wx A4 c4, wx.ownsRow w.heap.size 5 1 (.slice A4 p c4) p (numL .u8 bO) → Calls Tryz.prog 136 #[.slice A4 p c4, .int .i64 n] wx (TRPost (readToks bO n) wx)) := fun wx A4 c4 ho => by
        have hr := ho
        rw [← hbl] at hr
        have hr := own_row hr
        rw [hbl] at hr
        exact rtread_any wx A4 p c4 bO n (by omega) (by omega) hbl (by omega) hb8 hr
      have hall := read_all (body := bO) (n := n)
      have hcnt := read_count (body := bO) (n := n)
      have hE := show byE way n p bO = _ from if_neg hw
      have hO : byO way n p bO = if byE way n p bO ≠ 0 then [] else (Lz.play (readToks bO n).1 n).1 := by unfold byO; rw [if_neg hw]
      unfold TRPost at C1
      generalize readToks bO n = R at *
      obtain ⟨ts, e1⟩ := R
      simp only at hE hO C1 hall hcnt
      clear hbl hb8 hw
      by_cases he1 : e1 = 0
      · subst he1
        rw [if_neg (by simp)] at hE
        have hcnt := hcnt rfl
        have hall := hall rfl
        have C2 : Hid (∀ wx A2 c2, Row wx wx.heap.size A2 ts.length 3 (Toks.tokF ts) → Calls Tryz.prog 137 #[.slice A2 ts.length c2, .int .i64 n] wx (Lz.PlayPost (Lz.play ts n) wx)) := fun wx A2 c2 hr => Lz.rplay_any wx A2 ts.length c2 ts n (by omega) rfl (by omega) hall hr
        unfold Lz.PlayPost at C2
        generalize Lz.play ts n = P at *
        obtain ⟨out, e2⟩ := P
        simp only at hE hO C2
        by_cases he2 : e2 = 0
        · subst he2
          rw [if_neg (by simp)] at hE
          by_cases hl : out.length < n
          · rw [if_pos hl] at hE
            have hO2 : byO way n p bO = [] := by rw [hO, hE, if_pos (by simp)]
            rw [hE, hO2, if_pos (by simp)]
            have g5 : decide ((out.length : Int) < (n : Int)) = true := by simp; omega
            have g6 : decide (out.length < n) = true := by simp; omega
            clear hl hE hO hO2 hall hcnt
            go_enter Tryz.func70, Tryz.ntmps70
            go_wp2_with fail
            refine C0.out.mono ?_
            rintro e w1 ⟨rfl, hb1⟩
            have HB1 := Lib.hid hb1
            have HB2 : Hid (Below w.heap.size w (w1.alloc (.cells #[] 5))) := bel_alloc0 HB1.out
            have HO := Lib.hid (own_start (w := w1) (base := w.heap.size) HB1.out.size)
            have HS := Lib.hid (HSR.out _ HB2.out)
            have hz1 := HB2.out.size
            clear hb1 C0 HSR
            go_wp2_with (at_builtin; refine wpList_app rfl (.tmp 24) (.tmp 30) 22 rfl w.heap.size 5 j0 _ 1 1 Tryz.underlying22 hj0 hy0 hy1 hy2 rfl (by decide) _ _ _ (by rfl) HO.out _ _ _ _ (by rfl) HS.out (numL_one _ _) (by unfold maxLen; omega) (by omega) hz1 ?_; intro v4 w4 hown4 hg4 hat4; have HB4 : Hid (Below w.heap.size w w4) := HB2.out.grown hg4 hz1 (fun y hy => (World.ownsRow.lt HO.out y hy).1); have HO4 : Hid (w4.ownsRow w.heap.size 5 1 v4 p (numL .u8 bO)) := (by have h := hown4; rw [Nat.zero_add] at h; exact h); obtain ⟨A4, c4, rfl⟩ := own_shape HO4.out; clear hown4 hg4 hat4)
            refine (C1.out w4 A4 c4 HO4.out).mono ?_
            rintro e w5 ⟨v5, rfl, ho5, hb5⟩
            obtain ⟨A5, c5, rfl⟩ := own_shape ho5
            have HB5 : Hid (Below w.heap.size w w5) := bel_step0 hb5 HB4.out
            have hrow5 := own_toks ho5
            clear ho5 hb5 C1 HO4 HB4 HO HS HB1 HB2
            have HR5 := Lib.hid hrow5
            clear hrow5
            generalize ts.length = tl at *
            go_wp2_with fail
            refine (C2.out w5 A5 c5 HR5.out).mono ?_
            rintro e w6 ⟨v6, rfl, ho6, hb6⟩
            obtain ⟨A6, c6, rfl⟩ := own_shape ho6
            have HO6 := Lib.hid (own_mono ho6 HB5.out.size)
            have HB6 : Hid (Below w.heap.size w w6) := bel_step0 hb6 HB5.out
            clear ho6 hb6 C2 HR5 HB5
            generalize out.length = ol at *
            go_wp2_with fail
            go_ret3
            exact ⟨_, rfl, World.ownsRow_nil _ _ _ _, HB6.out⟩
          · rw [if_neg hl] at hE
            have hO2 : byO way n p bO = out := by rw [hO, hE, if_neg (by simp)]
            rw [hE, hO2, if_neg (by simp)]
            have g5 : decide ((out.length : Int) < (n : Int)) = false := by simp; omega
            have g6 : decide (out.length < n) = false := by simp; omega
            clear hl hE hO hO2 hall hcnt
            go_enter Tryz.func70, Tryz.ntmps70
            go_wp2_with fail
            refine C0.out.mono ?_
            rintro e w1 ⟨rfl, hb1⟩
            have HB1 := Lib.hid hb1
            have HB2 : Hid (Below w.heap.size w (w1.alloc (.cells #[] 5))) := bel_alloc0 HB1.out
            have HO := Lib.hid (own_start (w := w1) (base := w.heap.size) HB1.out.size)
            have HS := Lib.hid (HSR.out _ HB2.out)
            have hz1 := HB2.out.size
            clear hb1 C0 HSR
            go_wp2_with (at_builtin; refine wpList_app rfl (.tmp 24) (.tmp 30) 22 rfl w.heap.size 5 j0 _ 1 1 Tryz.underlying22 hj0 hy0 hy1 hy2 rfl (by decide) _ _ _ (by rfl) HO.out _ _ _ _ (by rfl) HS.out (numL_one _ _) (by unfold maxLen; omega) (by omega) hz1 ?_; intro v4 w4 hown4 hg4 hat4; have HB4 : Hid (Below w.heap.size w w4) := HB2.out.grown hg4 hz1 (fun y hy => (World.ownsRow.lt HO.out y hy).1); have HO4 : Hid (w4.ownsRow w.heap.size 5 1 v4 p (numL .u8 bO)) := (by have h := hown4; rw [Nat.zero_add] at h; exact h); obtain ⟨A4, c4, rfl⟩ := own_shape HO4.out; clear hown4 hg4 hat4)
            refine (C1.out w4 A4 c4 HO4.out).mono ?_
            rintro e w5 ⟨v5, rfl, ho5, hb5⟩
            obtain ⟨A5, c5, rfl⟩ := own_shape ho5
            have HB5 : Hid (Below w.heap.size w w5) := bel_step0 hb5 HB4.out
            have hrow5 := own_toks ho5
            clear ho5 hb5 C1 HO4 HB4 HO HS HB1 HB2
            have HR5 := Lib.hid hrow5
            clear hrow5
            generalize ts.length = tl at *
            go_wp2_with fail
            refine (C2.out w5 A5 c5 HR5.out).mono ?_
            rintro e w6 ⟨v6, rfl, ho6, hb6⟩
            obtain ⟨A6, c6, rfl⟩ := own_shape ho6
            have HO6 := Lib.hid (own_mono ho6 HB5.out.size)
            have HB6 : Hid (Below w.heap.size w w6) := bel_step0 hb6 HB5.out
            clear ho6 hb6 C2 HR5 HB5
            generalize hol : out.length = ol at *
            have HOL := Lib.hid hol
            clear hol
            go_wp2_with fail
            go_ret3
            exact ⟨_, rfl, by rw [HOL.out]; exact HO6.out, HB6.out⟩
        · rw [if_pos he2] at hE
          have hO2 : byO way n p bO = [] := by rw [hO, hE, if_pos he2]
          rw [hE, hO2, if_pos he2]
          have g5 : (e2 != 0) = true := by simpa using he2
          clear he2 hE hO hO2 hall hcnt
          go_enter Tryz.func70, Tryz.ntmps70
          go_wp2_with fail
          refine C0.out.mono ?_
          rintro e w1 ⟨rfl, hb1⟩
          have HB1 := Lib.hid hb1
          have HB2 : Hid (Below w.heap.size w (w1.alloc (.cells #[] 5))) := bel_alloc0 HB1.out
          have HO := Lib.hid (own_start (w := w1) (base := w.heap.size) HB1.out.size)
          have HS := Lib.hid (HSR.out _ HB2.out)
          have hz1 := HB2.out.size
          clear hb1 C0 HSR
          go_wp2_with (at_builtin; refine wpList_app rfl (.tmp 24) (.tmp 30) 22 rfl w.heap.size 5 j0 _ 1 1 Tryz.underlying22 hj0 hy0 hy1 hy2 rfl (by decide) _ _ _ (by rfl) HO.out _ _ _ _ (by rfl) HS.out (numL_one _ _) (by unfold maxLen; omega) (by omega) hz1 ?_; intro v4 w4 hown4 hg4 hat4; have HB4 : Hid (Below w.heap.size w w4) := HB2.out.grown hg4 hz1 (fun y hy => (World.ownsRow.lt HO.out y hy).1); have HO4 : Hid (w4.ownsRow w.heap.size 5 1 v4 p (numL .u8 bO)) := (by have h := hown4; rw [Nat.zero_add] at h; exact h); obtain ⟨A4, c4, rfl⟩ := own_shape HO4.out; clear hown4 hg4 hat4)
          refine (C1.out w4 A4 c4 HO4.out).mono ?_
          rintro e w5 ⟨v5, rfl, ho5, hb5⟩
          obtain ⟨A5, c5, rfl⟩ := own_shape ho5
          have HB5 : Hid (Below w.heap.size w w5) := bel_step0 hb5 HB4.out
          have hrow5 := own_toks ho5
          clear ho5 hb5 C1 HO4 HB4 HO HS HB1 HB2
          have HR5 := Lib.hid hrow5
          clear hrow5
          generalize ts.length = tl at *
          go_wp2_with fail
          refine (C2.out w5 A5 c5 HR5.out).mono ?_
          rintro e w6 ⟨v6, rfl, ho6, hb6⟩
          obtain ⟨A6, c6, rfl⟩ := own_shape ho6
          have HO6 := Lib.hid (own_mono ho6 HB5.out.size)
          have HB6 : Hid (Below w.heap.size w w6) := bel_step0 hb6 HB5.out
          clear ho6 hb6 C2 HR5 HB5
          generalize out.length = ol at *
          go_wp2_with fail
          go_ret3
          exact ⟨_, rfl, World.ownsRow_nil _ _ _ _, HB6.out⟩
      · rw [if_pos he1] at hE
        have hO2 : byO way n p bO = [] := by rw [hO, hE, if_pos he1]
        rw [hE, hO2, if_pos he1]
        have g1 : (e1 != 0) = true := by simpa using he1
        clear he1 hcnt hall hE hO hO2
        go_enter Tryz.func70, Tryz.ntmps70
        go_wp2_with fail
        refine C0.out.mono ?_
        rintro e w1 ⟨rfl, hb1⟩
        have HB1 := Lib.hid hb1
        have HB2 : Hid (Below w.heap.size w (w1.alloc (.cells #[] 5))) := bel_alloc0 HB1.out
        have HO := Lib.hid (own_start (w := w1) (base := w.heap.size) HB1.out.size)
        have HS := Lib.hid (HSR.out _ HB2.out)
        have hz1 := HB2.out.size
        clear hb1 C0 HSR
        go_wp2_with (at_builtin; refine wpList_app rfl (.tmp 24) (.tmp 30) 22 rfl w.heap.size 5 j0 _ 1 1 Tryz.underlying22 hj0 hy0 hy1 hy2 rfl (by decide) _ _ _ (by rfl) HO.out _ _ _ _ (by rfl) HS.out (numL_one _ _) (by unfold maxLen; omega) (by omega) hz1 ?_; intro v4 w4 hown4 hg4 hat4; have HB4 : Hid (Below w.heap.size w w4) := HB2.out.grown hg4 hz1 (fun y hy => (World.ownsRow.lt HO.out y hy).1); have HO4 : Hid (w4.ownsRow w.heap.size 5 1 v4 p (numL .u8 bO)) := (by have h := hown4; rw [Nat.zero_add] at h; exact h); obtain ⟨A4, c4, rfl⟩ := own_shape HO4.out; clear hown4 hg4 hat4)
        refine (C1.out w4 A4 c4 HO4.out).mono ?_
        rintro e w5 ⟨v5, rfl, ho5, hb5⟩
        obtain ⟨A5, c5, rfl⟩ := own_shape ho5
        have HB5 : Hid (Below w.heap.size w w5) := bel_step0 hb5 HB4.out
        have hrow5 := own_toks ho5
        clear ho5 hb5 C1 HO4 HB4 HO HS HB1 HB2
        clear hrow5
        go_wp2_with fail
        go_ret3
        exact ⟨_, rfl, World.ownsRow_nil _ _ _ _, HB5.out⟩
  · have hE : opE bs = hE8 bs := if_pos he8
    have hO : opO bs = [] := if_pos (by rw [hE]; exact he8)
    have hA : opA bs = 0 := if_pos (by rw [hE]; exact he8)
    rw [hE, hO, hA]
    have g1 : (hE8 bs != 0) = true := by simpa using he8
    generalize hdR (hE8 bs) (hWay bs) = x1 at *
    generalize hdR (hE8 bs) (hN bs) = x2 at *
    generalize hdR (hE8 bs) (hP bs) = x3 at *
    generalize hdR (hE8 bs) (hA3 bs) = x4 at *
    generalize hE8 bs = er at *
    clear hE hO hA he8 h8 ha hX hXo hn
    go_enter Tryz.func70, Tryz.ntmps70
    go_wp2_with fail
    refine C0.out.mono ?_
    rintro e w1 ⟨rfl, hb1⟩
    go_wp2_with fail
    go_ret3
    exact ⟨_, rfl, World.ownsRow_nil _ _ _ _, hb1⟩
end Go.Proofs.YtmgjgkdbagbleaaGreatDoor.Block
namespace Go.Proofs.YtmgjgkdbagbleaaGreatDoor.Block
open Go.RowKit Go.Proofs.YtmgjgkdbagbleaaGreatDoor.Mem Go.Proofs.YtmgjgkdbagbleaaGreatDoor.Own Go.Proofs.YtmgjgkdbagbleaaGreatDoor.Canon
open Go.Proofs.YtmgjgkdbagbleaaGreatDoor.Nums Go.Proofs.YtmgjgkdbagbleaaGreatDoor.Crc Go.Proofs.YtmgjgkdbagbleaaGreatDoor.NumPut
open Go.Proofs.YtmgjgkdbagbleaaGreatDoor.Huff (readToks)
open Go.Proofs.YtmgjgkdbagbleaaGreatDoor.Toks (Tk)
theorem row_head5 {w : World} {A : Option Addr} {n : Nat} {ls : List Nat} (h : Row w w.heap.size A n 1 (numF .u8 ls)) (h0 : 0 < n) : ∀ a, A = some a → a.add 0 = a ∧ a.block < w.heap.size := by
  intro a ha
  obtain ⟨b, off, rfl, hb, _⟩ := h h0
  injection ha with ha
  subst ha
  exact ⟨by rw [Mem.add_none, Nat.add_zero], hb⟩
theorem getD_u8 {l : List Nat} (h : ∀ x ∈ l, x ≤ 255) (i : Nat) : l.getD i 0 ≤ 255 := by
  by_cases hi : i < l.length
  · rw [List.getD_eq_getElem?_getD, List.getElem?_eq_getElem hi]
    exact h _ (List.getElem_mem hi)
  · rw [List.getD_eq_getElem?_getD, List.getElem?_eq_none (by omega)]
    show 0 ≤ 255
    omega
theorem snoc_u8 {l : List Nat} {y : Nat} (h : ∀ x ∈ l, x ≤ 255) (hy : y ≤ 255) : ∀ x ∈ l ++ [y], x ≤ 255 := fun x hx => by
  rcases List.mem_append.1 hx with hx | hx
  · exact h x hx
  · rw [List.mem_singleton.1 hx]; exact hy
theorem copyT_u8 : ∀ (n d : Nat) (out : List Nat), (∀ x ∈ out, x ≤ 255) → ∀ x ∈ Lz.copyT out n d, x ≤ 255
  | 0, _, _, h => h
  | n + 1, d, _, h => copyT_u8 n d _ (snoc_u8 h (getD_u8 h _))
theorem playT_u8 (most : Int) : ∀ (ts : List Tk) (out : List Nat), (∀ t ∈ ts, 0 ≤ t.lit ∧ t.lit ≤ 255) → (∀ x ∈ out, x ≤ 255) → ∀ x ∈ (Lz.playT most out ts).1, x ≤ 255
  | [], _, _, h => h
  | t :: ts, _, hl, h => by
    have h1 := hl t (by simp)
    rw [Lz.playT]
    split
    · refine playT_u8 most ts _ (fun x hx => hl x (List.mem_cons_of_mem _ hx)) ?_
      split
      · exact snoc_u8 h (by omega)
      · exact copyT_u8 _ _ _ h
    · intro x hx; cases hx
theorem opO_u8 {bs : List Nat} (h8 : ∀ x ∈ bs, x ≤ 255) : ∀ x ∈ opO bs, x ≤ 255 := by
  intro x hx
  unfold opO at hx
  split at hx
  · cases hx
  · rename_i h0
    unfold byO at hx
    split at hx
    · cases hx
    · rename_i h1
      have h1 : byE (hWay bs) (hN bs) (hP bs) (hBody bs) = 0 := by simpa using h1
      split at hx
      · unfold hBody at hx
        exact h8 x (takeO_mem hx)
      · rename_i hw
        have hr : (readToks (hBody bs) (hN bs)).2 = 0 := by
          unfold byE at h1
          rw [if_neg hw] at h1
          split at h1
          · contradiction
          · rename_i h2
            simpa using h2
        unfold Lz.play at hx
        rw [if_neg (by omega)] at hx
        exact playT_u8 _ _ _ (fun t ht => (read_all hr t ht).1) (by simp) x hx
end Go.Proofs.YtmgjgkdbagbleaaGreatDoor.Block
