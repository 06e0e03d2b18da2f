/-
  The walk of the reference's Codes.
-/
import Derived.Test.YtidclmmnfienlaaDoorCanonCodes
import Derived.Test.YtidclmmnfienlaaDoorApp
namespace Go.Proofs.YtidclmmnfienlaaDoor.Canon
open Go.RowKit Go.Proofs.YtidclmmnfienlaaDoor.Mem

/-- The words' numbers, the first s of length l and all shorter ones done, the others 0. -/
def part (ls : List Nat) (l s i : Nat) : Nat := let x := ls.getD i 0; if x ≠ 0 ∧ (x < l ∨ (x = l ∧ i < s)) then codeW ls i else 0
def partL (ls : List Nat) (l s : Nat) : List Value := (List.range ls.length).map fun i => .int .u16 (part ls l s i : Nat)
theorem partL_length (ls : List Nat) (l s : Nat) : (partL ls l s).length = ls.length := by simp [partL]
theorem partL_one (ls : List Nat) : partL ls 1 0 = List.replicate ls.length (.int .u16 0) := by
  unfold partL
  apply List.ext_getElem
  · simp
  · intro i h1 h2
    have : part ls 1 0 i = 0 := by unfold part; simp only; split <;> omega
    simp [this]
theorem partL_skip {ls : List Nat} {l s x : Nat} (hx : ls[s]? = some x) (hne : x ≠ l) : partL ls l (s + 1) = partL ls l s := by
  unfold partL
  apply List.map_congr_left
  intro i _
  congr 2
  unfold part
  by_cases e : i = s
  · subst e
    have : ls.getD i 0 = x := by simp [List.getD_eq_getElem?_getD, hx]
    simp only [this]
    by_cases h1 : x ≠ 0 ∧ x < l
    · rw [if_pos ⟨h1.1, .inl h1.2⟩, if_pos ⟨h1.1, .inl h1.2⟩]
    · rw [if_neg (by omega), if_neg (by omega)]
  · have : (i < s + 1) = (i < s) := by simp; omega
    simp only [this]
theorem partL_set {ls : List Nat} {l s : Nat} (hx : ls[s]? = some l) (h0 : l ≠ 0) : partL ls l (s + 1) = (partL ls l s).set s (.int .u16 (codeW ls s : Nat)) := by
  unfold partL
  apply List.ext_getElem?
  intro i
  rw [List.getElem?_set]
  have hs : s < ls.length := (List.getElem?_eq_some_iff.1 hx).1
  by_cases e : s = i
  · subst e
    have hg : ls[s] = l := (List.getElem?_eq_some_iff.1 hx).2
    simp [hs, part, hg, h0]
  · rw [if_neg e]
    by_cases hi : i < ls.length
    · simp only [List.getElem?_map, List.getElem?_range hi, Option.map_some]
      congr 2
      unfold part
      have : (i < s + 1) = (i < s) := by simp; omega
      simp only [this]
    · simp [hi]
theorem partL_next (ls : List Nat) (l : Nat) : partL ls l ls.length = partL ls (l + 1) 0 := by
  unfold partL
  apply List.map_congr_left
  intro i hi
  have hi := List.mem_range.1 hi
  congr 2
  unfold part
  simp only
  congr 1
  simp
  omega
theorem partL_all {ls : List Nat} (h : ∀ x ∈ ls, x ≤ 15) : partL ls 16 0 = (List.range ls.length).map fun i => .int .u16 (codeW ls i : Nat) := by
  unfold partL
  apply List.map_congr_left
  intro i hi
  have hi := List.mem_range.1 hi
  congr 2
  unfold part
  have hg : ls.getD i 0 = ls[i] := by simp [List.getD_eq_getElem?_getD, hi]
  simp only [hg]
  have := h _ (List.getElem_mem hi)
  by_cases h0 : ls[i] = 0
  · rw [if_neg (by omega), codeW_zero (by rw [List.getElem?_eq_getElem hi, h0])]
  · rw [if_pos ⟨h0, .inl (by omega)⟩]

/-- What the state of the count is. -/
def Nxt (ls : List Nat) (l s : Nat) (next was : Nat) (any : Bool) : Prop :=
  if any = true then was ≤ l ∧ (next + 1) * 2 ^ (l - was) = fst ls l + cn (ls.take s) l else next = 0 ∧ fst ls l + cn (ls.take s) l = 0
theorem Nxt.start (ls : List Nat) : Nxt ls 1 0 0 0 false := by
  unfold Nxt
  simp [fst, cn, cnt_nil]
theorem Nxt.skip {ls : List Nat} {l s next was x : Nat} {any : Bool} (h : Nxt ls l s next was any) (hx : ls[s]? = some x) (hne : x ≠ l) : Nxt ls l (s + 1) next was any := by
  have : cn (ls.take (s + 1)) l = cn (ls.take s) l := by
    rw [take_snoc hx]
    unfold cn
    split
    · rfl
    · rw [cnt_snoc, if_neg hne]; rfl
  unfold Nxt at h ⊢
  rw [this]
  exact h
theorem Nxt.next {ls : List Nat} {l next was : Nat} {any : Bool} (h : Nxt ls l ls.length next was any) : Nxt ls (l + 1) 0 next was any := by
  unfold Nxt at h ⊢
  rw [List.take_length] at h
  have h0 : cn (ls.take 0) (l + 1) = 0 := by simp [cn, cnt_nil]
  rw [h0, fst]
  split at h
  · rename_i ha
    rw [if_pos ha]
    refine ⟨by omega, ?_⟩
    rw [show l + 1 - was = (l - was) + 1 by omega, Nat.pow_succ]
    have : (next + 1) * (2 ^ (l - was) * 2) = (next + 1) * 2 ^ (l - was) * 2 := by rw [Nat.mul_assoc]
    rw [this, h.2]
    omega
  · rename_i ha
    rw [if_neg ha]
    omega
theorem Nxt.word {ls : List Nat} {l s next was : Nat} {any : Bool} (h : Nxt ls l s next was any) (hx : ls[s]? = some l) (h0 : l ≠ 0) :
    ∃ v, v = fst ls l + cn (ls.take s) l ∧ v % 65536 = codeW ls s ∧ Nxt ls l (s + 1) v l true ∧ (any = true → was ≤ l ∧ (next + 1) * 2 ^ (l - was) = v) ∧ (any = false → next = v) := by
  refine ⟨_, rfl, ?_, ?_, fun ha => ?_, fun ha => ?_⟩
  · rw [codeW_pos hx h0]
    congr 2
    unfold cn
    rw [if_neg h0]
  · unfold Nxt
    rw [if_pos rfl]
    refine ⟨Nat.le_refl _, ?_⟩
    have : cn (ls.take (s + 1)) l = cn (ls.take s) l + 1 := by
      rw [take_snoc hx]
      unfold cn
      rw [if_neg h0, if_neg h0, cnt_snoc, if_pos rfl]
    rw [this, Nat.sub_self]
    omega
  · unfold Nxt at h
    rw [if_pos ha] at h
    exact h
  · unfold Nxt at h
    rw [if_neg (by rw [ha]; simp)] at h
    omega

def RefCodesPost (ls : List Nat) (n : Nat) (w : World) (e : Ending) (w' : World) : Prop :=
  ∃ v, e = .returned (.tuple #[v, .int .i64 0]) ∧ w'.ownsRow w.heap.size 98 1 v n ((List.range n).map fun i => .int .u16 (codeW ls i : Nat)) ∧ Below w.heap.size w w'

theorem refcodes_bad (w : World) (A : Option Addr) (n c : Nat) (ls : List Nat) (hn : ls.length = n) (hN : n ≤ 9223372036854775807) (hok : okB ls = false) (ha : Row w w.heap.size A n 1 (numF .u8 ls)) :
    Calls Tryd.prog 43 #[.slice A n c] w fun e w' => e = .returned (.tuple #[.slice none 0 0, .int .i64 7]) ∧ w = w' := by
  have C := refcheck_any w A n c ls hn hN ha
  have hE : checkE ls = 7 := by unfold checkE; rw [hok]; rfl
  rw [hE] at C
  have C := Lib.hid C
  clear hn hok hE
  go_enter Tryd.func43, Tryd.ntmps43
  go_wp2_with fail
  refine C.out.mono ?_
  rintro e w1 ⟨rfl, rfl⟩
  go_wp2_with fail
  go_ret2
  exact ⟨rfl, rfl⟩

set_option maxHeartbeats 1000000 in
set_option maxRecDepth 100000 in
theorem refcodes_any (w : World) (A : Option Addr) (n c : Nat) (ls : List Nat) (hn : ls.length = n) (hok : okB ls = true) (ha : Row w w.heap.size A n 1 (numF .u8 ls)) :
    Calls Tryd.prog 43 #[.slice A n c] w (RefCodesPost ls n w) := by
  have hgood : goodB ls = true := by
    cases hg : goodB ls
    · rw [okB_good hg] at hok; cases hok
    · rfl
  obtain ⟨hlen, hsm⟩ := good_of hgood
  rw [hn] at hlen
  have C := refcheck_any w A n c ls hn (by omega) ha
  have hE : checkE ls = 0 := by unfold checkE; rw [hok]; rfl
  rw [hE] at C
  have C1 := Lib.hid C
  have HN := Lib.hid hn
  have HSM := Lib.hid hsm
  have HFL : Hid (∀ l, l ≤ 16 → fst ls l ≤ 39321600) := by
    show ∀ l, l ≤ 16 → fst ls l ≤ 39321600
    intro l hl
    have h1 := fst_le ls l
    have h2 : 2 ^ (l + 1) ≤ 2 ^ 17 := Nat.pow_le_pow_right (by omega) (by omega)
    have h3 : 2 ^ (l + 1) * ls.length ≤ 2 ^ 17 * 300 := Nat.mul_le_mul h2 (by omega)
    omega
  obtain ⟨i0, hi0, hz0, hz1, hz2⟩ := info_parts info_u16
  clear C hE hok hgood hsm hn
  go_enter Tryd.func43, Tryd.ntmps43
  go_wp2_with fail
  refine C1.out.mono ?_
  rintro e w1 ⟨rfl, rfl⟩
  go_wp2_with fail
  go_loopw [4, 5] (fun v i wr => ∃ k : Nat, k ≤ n ∧ i = .int .i64 k ∧ wr.ownsRow w.heap.size 98 1 v k (List.replicate k (.int .u16 0)) ∧ Below w.heap.size w wr) (fun _ i _ => n - (intOf i).toNat)
  case atStart => exact ⟨0, by omega, rfl, World.ownsRow_nil _ _ _ _, Below.refl _ _⟩
  case round =>
    obtain ⟨k, hk, rfl, hown, rbel⟩ := hrel
    have hbr := rbel.size
    by_cases hlt : k < n
    · obtain ⟨va, vc, rfl⟩ := own_shape hown
      go_wp2_with (at_builtin; refine wpList_app rfl (.tmp 21) (.tmp 22) 51 rfl w.heap.size 98 i0 _ 1 2 Tryd.underlying51 hi0 hz0 hz1 hz2 rfl (by decide) _ _ _ (by rfl) (hown.alloc _) _ 1 1 [.int .u16 0] (by rfl) (Src.of_blk (Blk.made _ _ _) 1 1 1 rfl) (by intro u hu; simp at hu; subst hu; rfl) (by unfold maxLen; omega) (by omega) (by simp; omega) ?_; intro v3 w3 hown3 hg3 hat3)
      go_roundw
      case rel =>
        go_light
        refine ⟨k + 1, by omega, by go_num, ?_, ((bel_alloc hbr rbel).grown hg3 (by simp; omega) (fun g hg => (World.ownsRow.lt hown g hg).1))⟩
        rw [List.replicate_succ']
        exact hown3
      case measure => go_light; simp [intOf]; omega
    · obtain rfl : k = n := by omega
      obtain ⟨va, vc, rfl⟩ := own_shape hown
      rw [← HN.out, ← partL_one, HN.out] at hown
      have HOWN := Lib.hid hown
      have hbel0 := rbel
      clear hown
      go_wp2_with fail
      go_loopw [6, 7, 8, 9] (fun a b d e wr => ∃ (l N W : Nat) (y : Bool), 1 ≤ l ∧ l ≤ 16 ∧ e = .int .i64 l ∧ a = .int .i64 N ∧ b = .int .i64 W ∧ d = .bool y ∧ Hid (Nxt ls l 0 N W y) ∧ N ≤ 50000000 ∧ W ≤ 16 ∧ wr.ownsRow w.heap.size 98 1 (.slice va k vc) k (partL ls l 0) ∧ Below w.heap.size w wr) (fun _ _ _ e _ => 16 - (intOf e).toNat)
      case atStart => exact ⟨1, 0, 0, false, by omega, by omega, rfl, rfl, rfl, rfl, Nxt.start ls, by omega, by omega, HOWN.out, hbel0⟩
      case round =>
        clear hbel0 HOWN
        obtain ⟨l, N, W, y, hl1, hl2, rfl, rfl, rfl, rfl, hnx, bN, bW, hown, rbel⟩ := hrel
        by_cases hll : l < 16
        · go_wp2_with fail
          obtain ⟨wo, rfl⟩ : ∃ wo : World, wo = wr := ⟨_, rfl⟩
          go_loopw [6, 7, 8, 10] (fun a b d e wr => ∃ (s N W : Nat) (y : Bool), s ≤ k ∧ e = .int .i64 s ∧ a = .int .i64 N ∧ b = .int .i64 W ∧ d = .bool y ∧ Hid (Nxt ls l s N W y) ∧ N ≤ 50000000 ∧ W ≤ 16 ∧ wr.ownsRow w.heap.size 98 1 (.slice va k vc) k (partL ls l s) ∧ Below w.heap.size w wr) (fun _ _ _ e _ => k - (intOf e).toNat)
          case atStart => exact ⟨0, N, W, y, by omega, rfl, rfl, rfl, rfl, hnx, bN, bW, hown, rbel⟩
          case round =>
            clear hnx hown rbel
            obtain ⟨s, N, W, y, hs, rfl, rfl, rfl, rfl, hnx, bN, bW, hown, rbel⟩ := hrel
            by_cases hls : s < k
            · obtain ⟨b, off, x, rfl, hbb, hx, c0⟩ := num_cell (ha.below rbel) HN.out hls
              have x0 : (0 : Int) ≤ (s : Int) := by omega
              have x1 : (s : Int) < (k : Int) := by omega
              by_cases hxl : x = l
              · subst hxl
                obtain ⟨v, hv, hvw, hnx2, hyt, hyf⟩ := hnx.out.word hx (by omega)
                have bv : v ≤ 39321900 := by
                  have h1 := HFL.out x (by omega)
                  have h2 := cn_le (ls.take s) x
                  rw [List.length_take] at h2
                  omega
                have hset := partL_set hx (by omega)
                obtain ⟨g, cap, hv0⟩ : ∃ g cap, Value.slice va k vc = .slice (some ⟨g, 0, none⟩) k cap := by
                  rcases hown.2 with ⟨hv0, _⟩ | ⟨g, cap, cur, hv0, _⟩
                  · injection hv0 with _ h2 _
                    omega
                  · exact ⟨g, cap, hv0⟩
                injection hv0 with e1 e2 e3
                subst e1 e3
                have hst := hown.stored s (.int .u16 (codeW ls s : Nat))
                rw [← hset] at hst
                have hgB := (World.ownsRow.lt hown g rfl).1
                have c1 := hown.cellAt s (by omega)
                rw [List.getElem?_eq_getElem (by rw [partL_length, HN.out]; omega)] at c1
                generalize (partL ls x s)[s]'(by rw [partL_length, HN.out]; omega) = old at c1
                have f1 := hown.frozenAt s
                have HST := Lib.hid hst.1
                have HNX2 := Lib.hid hnx2
                have HVW : Hid (IntKind.u16.wrap (v : Int) = ((codeW ls s : Nat) : Int)) := by show _ = _; rw [wrap_u16, hvw]
                have HYT := Lib.hid hyt
                have HYF := Lib.hid hyf
                clear hv hvw hset hst hx hnx2 hnx e2 hyt hyf
                cases y
                · obtain rfl := HYF.out rfl
                  go_wp2_with fail
                  go_roundw
                  case rel =>
                    go_light
                    rw [HVW.out]
                    exact ⟨s + 1, N, x, true, by omega, by go_num, rfl, rfl, rfl, HNX2, by omega, by omega, HST.out, bel_set (p := ⟨g, s, none⟩) hgB rbel⟩
                  case measure => go_light; simp [intOf]; omega
                · obtain ⟨hWl, hVV⟩ := HYT.out rfl
                  have HVV := Lib.hid hVV
                  have hbd : ∀ J, W ≤ J → J ≤ x → (N + 1) * 2 ^ (J - W) ≤ v := by
                    intro J h1 h2
                    rw [← hVV]
                    exact Nat.mul_le_mul_left _ (Nat.pow_le_pow_right (by omega) (by omega))
                  have HBD := Lib.hid hbd
                  clear hVV hbd
                  go_wp2_with fail
                  go_loop [6, 11] (fun a j => ∃ J M : Nat, W ≤ J ∧ J ≤ x ∧ j = .int .i64 J ∧ a = .int .i64 M ∧ Hid (M = (N + 1) * 2 ^ (J - W)) ∧ M ≤ 39321900) (fun _ j => x - (intOf j).toNat)
                  case atStart => exact ⟨W, N + 1, by omega, by omega, rfl, by go_num, by show N + 1 = _; simp, by have := HBD.out W (by omega) (by omega); simp at this; omega⟩
                  case round =>
                    obtain ⟨J, M, hJ1, hJ2, rfl, rfl, hM, bM⟩ := hrel
                    by_cases hlJ : J < x
                    · go_wp2_with fail
                      go_round
                      case rel =>
                        go_light
                        have h1 := HBD.out (J + 1) (by omega) (by omega)
                        have h2 : (N + 1) * 2 ^ (J + 1 - W) = 2 * M := by
                          rw [hM.out, show J + 1 - W = (J - W) + 1 by omega, Nat.pow_succ, ← Nat.mul_assoc, Nat.mul_comm]
                        exact ⟨J + 1, 2 * M, by omega, by omega, by go_num, by go_num, h2.symm, by omega⟩
                      case measure => go_light; simp [intOf]; omega
                    · obtain rfl : J = x := by omega
                      obtain rfl : M = v := hM.out.trans HVV.out
                      go_wp2_with fail
                      go_roundw
                      case rel =>
                        go_light
                        rw [HVW.out]
                        exact ⟨_, _, _, _, ⟨s + 1, by omega, rfl, M, rfl, J, rfl, .inr ⟨rfl, HNX2, by omega, by omega, HST.out, bel_set (p := ⟨g, s, none⟩) hgB rbel⟩⟩, rfl, rfl, rfl, by go_num⟩
                      case measure => go_light; simp [intOf]; omega
              · have hx15 : x ≤ 15 := HSM.out x (List.mem_of_getElem? hx)
                have hxb : ((x : Int) != (l : Int)) = true := bne_iff_ne.mpr (by omega)
                have hnx2 := hnx.out.skip hx hxl
                have HNX2 := Lib.hid hnx2
                have HPL := Lib.hid (partL_skip hx hxl)
                clear hnx2 hx hxl
                go_wp2_with fail
                go_roundw
                case rel =>
                  go_light
                  exact ⟨s + 1, N, W, y, by omega, by go_num, rfl, rfl, rfl, HNX2, bN, bW, by rw [HPL.out]; exact hown, rbel⟩
                case measure => go_light; simp [intOf]; omega
            · obtain rfl : s = k := by omega
              have hn2 := hnx.out
              rw [← HN.out] at hn2
              have HN2 := Lib.hid hn2.next
              have hp := partL_next ls l
              rw [HN.out] at hp
              rw [hp] at hown
              clear hn2 hp hnx
              go_wp2_with fail
              go_roundw
              case rel =>
                go_light
                exact ⟨l + 1, N, W, y, by omega, by omega, by go_num, rfl, rfl, rfl, HN2, bN, bW, hown, rbel⟩
              case measure => go_light; simp [intOf]; omega
        · obtain rfl : l = 16 := by omega
          rw [partL_all HSM.out, HN.out] at hown
          go_wp2_with fail
          go_ret2
          go_light
          exact ⟨_, rfl, hown, rbel⟩
end Go.Proofs.YtidclmmnfienlaaDoor.Canon
