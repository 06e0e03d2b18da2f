/-
  The walk of firkinref08.Read: lengths that are read by the reference.
-/
import Derived.Test.YtdfpcnldfibceaaCanonRead
import Derived.Test.YtdfpcnldfibceaaRefCheck
namespace Go.Proofs.Ytdfpcnldfibceaa.Huff
open Go.RowKit Go.Proofs.Ytdfpcnldfibceaa.Mem Go.Proofs.Ytdfpcnldfibceaa.Canon Go.Proofs.Ytdfpcnldfibceaa.Own

def RRPost (R : List Nat × Int × Nat) (g hi : Nat) (bs : List Bool) (w : World) (e : Ending) (w' : World) : Prop :=
  ∃ v, e = .returned (.tuple #[v, .int .i64 R.2.1]) ∧ w'.ownsRow w.heap.size 5 1 v R.1.length (numL .u8 R.1) ∧ RRd w' g hi bs R.2.2 ∧ Kept (fun x => x < w.heap.size ∧ x ≠ g) w w'

set_option maxHeartbeats 2000000 in
set_option maxRecDepth 100000 in
theorem r8read_any (w : World) (g hi : Nat) (bs : List Bool) (at0 n : Nat) (hn : n ≤ 300) (hhi : hi ≤ w.heap.size) (hR : RRd w g hi bs at0) :
    Calls Try.prog 129 #[.pointer (some ⟨g, 0, none⟩), .int .i64 (n : Nat)] w (RRPost (readGo bs n (n + 1) [] false at0) g hi bs w) := by
  obtain ⟨j0, hj0, hy0, hy1, hy2⟩ := info_parts info_u8
  have hgl : g < w.heap.size := by obtain ⟨_, _, h1, _⟩ := hR; exact h1.lt
  have HR := Lib.hid hR
  clear hR
  go_enter Try.func129, Try.ntmps129
  go_wp2_with fail
  go_loopw [6, 7] (fun u s wr => ∃ (L at_ a : Nat) (out : List Nat) (sh : Bool), L ≤ n ∧ a ≤ 64 ∧ s = .int .i64 a ∧ Hid (sh = decide (a < 64)) ∧ wr.ownsRow w.heap.size 5 1 u L (numL .u8 out) ∧ Hid (out.length = L) ∧
      Hid (∃ f, n + 1 ≤ f + L ∧ readGo bs n f out sh at_ = readGo bs n (n + 1) [] false at0) ∧ Hid (RRd wr g hi bs at_) ∧ Hid (Kept (fun x => x < w.heap.size ∧ x ≠ g) w wr)) (fun u _ _ => match u with | .slice _ l _ => n - l | _ => 0)
  case atStart => exact ⟨0, at0, 64, [], false, by omega, by omega, rfl, rfl, World.ownsRow_nil _ _ _ _, rfl, ⟨n + 1, by omega, rfl⟩, HR.out, Kept.refl _ _⟩
  case round =>
    clear HR
    obtain ⟨L, at_, a, out, sh, hL, ha, rfl, hsh, hown, hlen, hgo, hRd, hkp⟩ := hrel
    obtain ⟨f, hf, hgo⟩ := hgo.out
    obtain ⟨f, rfl⟩ : ∃ f', f = f' + 1 := ⟨f - 1, by omega⟩
    have HF := Lib.hid hf
    obtain ⟨va, vc, rfl⟩ := own_shape hown
    by_cases hlt : L < n
    · have C1 := rbget_any wr g hi bs at_ 4 (by omega) hRd.out
      have hnl : ¬ n ≤ out.length := by rw [hlen.out]; omega
      by_cases hin : at_ + 4 ≤ bs.length
      · rw [(got_ok hin).1, (got_ok hin).2.1, (got_ok hin).2.2] at C1
        have hv16 := accB_lt bs at_ 4
        obtain ⟨l, hl⟩ : ∃ l, l = accB bs at_ 4 := ⟨_, rfl⟩
        rw [← hl] at C1 hv16
        have C1 := Lib.hid C1
        by_cases hl0 : l = 0
        · subst hl0
          have hkz := hkp.out.size
          have C2 := fun wx (h : RRd wx g hi bs (at_ + 4)) => rbget_any wx g hi bs (at_ + 4) 6 (by omega) h
          by_cases hin2 : at_ + 4 + 6 ≤ bs.length
          · rw [(got_ok hin2).1, (got_ok hin2).2.1, (got_ok hin2).2.2] at C2
            have hk64 := accB_lt bs (at_ + 4) 6
            have hbad := fun h => readGo_bad (f := f) (short := sh) hnl hin2 hl.symm h
            have hrow := fun h => readGo_row (f := f) (short := sh) hnl hin2 hl.symm h
            obtain ⟨k, hk⟩ : ∃ k, k = accB bs (at_ + 4) 6 := ⟨_, rfl⟩
            rw [← hk] at C2 hk64 hbad hrow
            rw [hlen.out] at hbad hrow
            have C2 := Lib.hid C2
            by_cases hb : sh = true ∨ n - L ≤ k
            · rw [hbad hb] at hgo
              have HG := Lib.hid hgo
              by_cases ha2 : a < 64
              · clear hgo hnl hin hf hl hbad hrow hk hb hin2
                go_wp2_with fail
                refine C1.out.mono ?_
                rintro e w1 ⟨rfl, hR1, hk1⟩
                go_wp2_with fail
                refine (C2.out _ hR1).mono ?_
                rintro e w2 ⟨rfl, hR2, hk2⟩
                go_wp2_with fail
                go_ret2
                rw [← HG.out]
                exact ⟨_, rfl, World.ownsRow_nil _ _ _ _, hR2, hkp.out.trans (Kept.trans ⟨hk1.os, hk1.tape, hk1.output, hk1.size, fun b h => hk1.block b h.2⟩ ⟨hk2.os, hk2.tape, hk2.output, hk2.size, fun b h => hk2.block b h.2⟩)⟩
              · have hkn : n - L ≤ k := by
                  rcases hb with h | h
                  · rw [hsh.out] at h; simp at h; omega
                  · exact h
                clear hgo hnl hin hf hl hbad hrow hk hb hin2
                obtain rfl : a = 64 := by omega
                clear ha2
                go_wp2_with fail
                refine C1.out.mono ?_
                rintro e w1 ⟨rfl, hR1, hk1⟩
                go_wp2_with fail
                refine (C2.out _ hR1).mono ?_
                rintro e w2 ⟨rfl, hR2, hk2⟩
                go_wp2_with fail
                go_ret2
                rw [← HG.out]
                exact ⟨_, rfl, World.ownsRow_nil _ _ _ _, hR2, hkp.out.trans (Kept.trans ⟨hk1.os, hk1.tape, hk1.output, hk1.size, fun b h => hk1.block b h.2⟩ ⟨hk2.os, hk2.tape, hk2.output, hk2.size, fun b h => hk2.block b h.2⟩)⟩
            · rw [hrow hb] at hgo
              have HG := Lib.hid hgo
              obtain rfl : a = 64 := by
                rw [hsh.out] at hb
                simp at hb
                omega
              have hkn : ¬ (n : Int) - (L : Int) ≤ (k : Int) := by
                intro h
                exact hb (.inr (by omega))
              have hroom : L + (k + 1) ≤ n := by omega
              clear hgo hnl hin hf hl hbad hrow hk hb hin2
              go_wp2_with fail
              refine C1.out.mono ?_
              rintro e w1 ⟨rfl, hR1, hk1⟩
              go_wp2_with fail
              refine (C2.out _ hR1).mono ?_
              rintro e w2 ⟨rfl, hR2, hk2⟩
              have hk12 : Kept (fun x => x ≠ g) wr w2 := hk1.trans hk2
              have hown2 := own_kept hown (fun x hx => hk12.block x (by have := (World.ownsRow.lt hown x hx).1; show x ≠ g; omega))
              have HK2 : Hid (Kept (fun x => x < w.heap.size ∧ x ≠ g) w w2) := hkp.out.trans ⟨hk12.os, hk12.tape, hk12.output, hk12.size, fun b h => hk12.block b h.2⟩
              have hz2 := HK2.out.size
              have HR2 := Lib.hid hR2
              have HO2 := Lib.hid hown2
              clear hk1 hk2 hk12 hR1 hR2 C1 C2 hown hkp hRd hown2 hgo hsh ha hv16
              have ek : ((k + 1 : Nat) : Int) = (k : Int) + 1 := by omega
              go_wp2_with fail
              go_loopw [6, 11] (fun u i wx => ∃ j : Nat, j ≤ k + 1 ∧ i = .int .i64 j ∧ wx.ownsRow w.heap.size 5 1 u (L + j) (numL .u8 (out ++ List.replicate j 0)) ∧ Hid (RRd wx g hi bs (at_ + 4 + 6)) ∧ Hid (Kept (fun x => x < w.heap.size ∧ x ≠ g) w wx)) (fun _ i _ => k + 1 - (intOf i).toNat)
              case atStart => exact ⟨0, by omega, rfl, by simpa using HO2.out, HR2.out, HK2.out⟩
              case round =>
                clear HO2 HR2 HK2
                obtain ⟨j, hj, rfl, hown, hRd, hkp⟩ := hrel
                obtain ⟨wa, wc, rfl⟩ := own_shape hown
                have hkz := hkp.out.size
                by_cases hjk : j < k + 1
                · have hjk2 : (j : Int) < (k : Int) + 1 := by omega
                  go_wp2_with (at_builtin; refine wpList_app rfl (.tmp 65) (.tmp 66) 56 rfl w.heap.size 5 j0 _ 1 1 Try.underlying56 hj0 hy0 hy1 hy2 rfl (by decide) _ _ _ (by rfl) (hown.alloc _) _ 1 1 [.int .u8 0] (by rfl) (Src.of_blk (Blk.made _ _ _) 1 1 1 rfl) (by intro u hu; simp at hu; subst hu; rfl) (by unfold maxLen; omega) (by omega) (by simp; omega) ?_; intro v3 w3 hown3 hg3 hat3)
                  go_roundw
                  case measure => go_light; simp [intOf]; omega
                  case rel =>
                    go_light
                    refine ⟨j + 1, by omega, by go_num, ?_, ?_, ?_⟩
                    · rw [List.replicate_succ', ← List.append_assoc, numL_app, ← Nat.add_assoc]; exact hown3
                    · exact hRd.out.keep (fun b _ h => (hg3.block b (by simp; omega) (fun h => by have := (World.ownsRow.lt hown b h.symm).1; omega)).trans (Below.heap_alloc wr _ b (by omega)))
                    · exact (hkp.out.alloc (fun b h => by have := h.1; omega) _).grown hg3 (fun b h => by have := h.1; simp; omega) (fun b hb h => by have := (World.ownsRow.lt hown b hb).1; have := h.1; omega)
                · obtain rfl : j = k + 1 := by omega
                  go_wp2_with fail
                  go_roundw
                  case measure => go_light; show n - (L + (k + 1)) < n - L; omega
                  case rel =>
                    go_light
                    refine ⟨L + (k + 1), at_ + 4 + 6, k + 1, out ++ List.replicate (k + 1) 0, decide (k + 1 < 64), hroom, by omega, by go_num, rfl, hown, ?_, ⟨f, by have := HF.out; omega, HG.out⟩, hRd.out, hkp.out⟩
                    show (out ++ List.replicate (k + 1) 0).length = _; rw [List.length_append, List.length_replicate, hlen.out]
          · rw [(got_no hin2).1, (got_no hin2).2.1, (got_no hin2).2.2] at C2
            rw [readGo_short2 hnl hin hl.symm hin2] at hgo
            have C2 := Lib.hid C2
            have HG := Lib.hid hgo
            clear hgo hnl hin hf hl hin2
            go_wp2_with fail
            refine C1.out.mono ?_
            rintro e w1 ⟨rfl, hR1, hk1⟩
            go_wp2_with fail
            refine (C2.out _ hR1).mono ?_
            rintro e w2 ⟨rfl, hR2, hk2⟩
            go_wp2_with fail
            go_ret2
            rw [← HG.out]
            exact ⟨_, rfl, World.ownsRow_nil _ _ _ _, hR2, hkp.out.trans (Kept.trans ⟨hk1.os, hk1.tape, hk1.output, hk1.size, fun b h => hk1.block b h.2⟩ ⟨hk2.os, hk2.tape, hk2.output, hk2.size, fun b h => hk2.block b h.2⟩)⟩
        · have hl16 : l < 16 := by omega
          rw [readGo_one hnl hin (by rw [← hl]; exact hl0), ← hl] at hgo
          have HG := Lib.hid hgo
          have hlp : 0 < l := by omega
          clear hgo hnl hin hf hl hl0 hv16
          go_wp2_with fail
          refine C1.out.mono ?_
          rintro e w1 ⟨rfl, hR1, hk1⟩
          have hown1 := own_kept hown (fun x hx => hk1.block x (by have := (World.ownsRow.lt hown x hx).1; show x ≠ g; omega))
          have HK1 : Hid (Kept (fun x => x < w.heap.size ∧ x ≠ g) w w1) := hkp.out.trans ⟨hk1.os, hk1.tape, hk1.output, hk1.size, fun b h => hk1.block b h.2⟩
          have hz1 := HK1.out.size
          have HR1 := Lib.hid hR1
          clear hk1 hR1 C1 hown hkp hRd
          go_wp2_with (at_builtin; refine wpList_app rfl (.tmp 32) (.tmp 35) 56 rfl w.heap.size 5 j0 _ 1 1 Try.underlying56 hj0 hy0 hy1 hy2 rfl (by decide) _ _ _ (by rfl) (hown1.alloc _) _ 1 1 [.int .u8 (l : Nat)] (by rfl) (Src.of_blk (Blk.made _ _ _) 1 1 1 rfl) (by intro u hu; simp at hu; subst hu; rfl) (by unfold maxLen; omega) (by omega) (by simp; omega) ?_; intro v3 w3 hown3 hg3 hat3)
          obtain ⟨A3, c3, rfl⟩ := own_shape hown3
          go_roundw
          case measure => go_light; show n - (L + 1) < n - L; omega
          case rel =>
            go_light
            refine ⟨L + 1, at_ + 4, 64, out ++ [l], false, by omega, by omega, rfl, rfl, ?_, ?_, ⟨f, by have := HF.out; omega, HG.out⟩, ?_, ?_⟩
            · rw [numL_app]; exact hown3
            · show (out ++ [l]).length = _; rw [List.length_append, hlen.out]; rfl
            · exact HR1.out.keep (fun b _ h => (hg3.block b (by simp; omega) (fun h => by have := (World.ownsRow.lt hown1 b h.symm).1; omega)).trans (Below.heap_alloc w1 _ b (by omega)))
            · exact (HK1.out.alloc (fun b h => by have := h.1; omega) _).grown hg3 (fun b h => by have := h.1; simp; omega) (fun b hb h => by have := (World.ownsRow.lt hown1 b hb).1; have := h.1; omega)
      · rw [(got_no hin).1, (got_no hin).2.1, (got_no hin).2.2] at C1
        rw [readGo_short hnl hin] at hgo
        have C1 := Lib.hid C1
        have HG := Lib.hid hgo
        clear hgo hnl hin hf
        go_wp2_with fail
        refine C1.out.mono ?_
        rintro e w1 ⟨rfl, hR1, hk1⟩
        go_wp2_with fail
        go_ret2
        rw [← HG.out]
        exact ⟨_, rfl, World.ownsRow_nil _ _ _ _, hR1, hkp.out.trans ⟨hk1.os, hk1.tape, hk1.output, hk1.size, fun b h => hk1.block b h.2⟩⟩
    · obtain rfl : L = n := by omega
      rw [readGo_end (by rw [hlen.out]; omega)] at hgo
      have hrow : Row wr wr.heap.size va L 1 (numF .u8 out) := Row.of_own hown rfl (fun i j hi hj => by have e0 : j = 0 := (by omega); subst e0; exact numL_get (by rw [hlen.out]; exact hi))
      have C3 := refcheck_any wr va L vc out hlen.out (by omega) hrow
      have hkz := hkp.out.size
      unfold checkE at C3
      cases hok : okB out
      · rw [hok] at C3 hgo
        rw [if_neg (by simp)] at hgo
        have C3 := Lib.hid C3
        have HG := Lib.hid hgo
        clear hgo hok hrow hf
        go_wp2_with fail
        refine C3.out.mono ?_
        rintro e w1 ⟨rfl, rfl⟩
        go_wp2_with fail
        go_ret2
        rw [← HG.out]
        exact ⟨_, rfl, World.ownsRow_nil _ _ _ _, hRd.out, hkp.out⟩
      · rw [hok] at C3 hgo
        rw [if_pos rfl] at hgo
        have C3 := Lib.hid C3
        have HG := Lib.hid hgo
        clear hgo hok hrow hf
        go_wp2_with fail
        refine C3.out.mono ?_
        rintro e w1 ⟨rfl, rfl⟩
        go_wp2_with fail
        go_ret2
        rw [← HG.out]
        refine ⟨_, rfl, ?_, hRd.out, hkp.out⟩
        show World.ownsRow _ _ _ _ _ out.length _
        rw [hlen.out]
        exact hown
end Go.Proofs.Ytdfpcnldfibceaa.Huff
