/-
  The walk of the statement LensBest.
-/
import Derived.Test.YtdfpcnldfibceaaLensRare
namespace Go.Proofs.Ytdfpcnldfibceaa.Lens
open Go.RowKit Go.Proofs.Ytdfpcnldfibceaa.Mem Go.Proofs.Ytdfpcnldfibceaa.Own Go.Proofs.Ytdfpcnldfibceaa.Srt Go.Proofs.Ytdfpcnldfibceaa.Canon

theorem law_best_long (w : World) (A B : Option Addr) (n c m d : Nat) (limit : Int) (_hn : n ≤ 9223372036854775807) (_hm : m ≤ 9223372036854775807) (h : 300 < n ∨ m ≠ n) :
    Calls Try.prog 20 #[.slice A n c, .int .i64 limit, .slice B m d] w fun e w' => e = .returned (.bool true) ∧ Below w.heap.size w w' := by
  by_cases h1 : 300 < n
  · clear h
    go_enter Try.func20, Try.ntmps20
    go_wp2_with fail
    refine (alive07 _).mono ?_
    rintro e w1 ⟨rfl, hb1⟩
    go_wp2_with fail
    go_ret
    exact ⟨rfl, hb1⟩
  · have h2 : ((m : Int) != (n : Int)) = true := by simp; omega
    have g1 : decide ((300 : Int) < (n : Int)) = false := by simp; omega
    have g2 : decide (300 < n) = false := by simp; omega
    clear h
    go_enter Try.func20, Try.ntmps20
    go_wp2_with fail
    refine (alive07 _).mono ?_
    rintro e w1 ⟨rfl, hb1⟩
    go_wp2_with fail
    go_ret
    exact ⟨rfl, hb1⟩

set_option maxHeartbeats 1000000 in
set_option maxRecDepth 100000 in
theorem law_best (w : World) (A B : Option Addr) (n c d : Nat) (ks ls : List Nat) (limit : Int) (hn : ks.length = n) (hm : ls.length = n) (hN : n ≤ 300) (hl1 : -9223372036854775808 ≤ limit) (hl2 : limit ≤ 9223372036854775807) (h32 : ∀ x ∈ ks, x < 4294967296) (h8 : ∀ x ∈ ls, x ≤ 255) (ha : Row w w.heap.size A n 1 (numF .u32 ks)) (hb : Row w w.heap.size B n 1 (numF .u8 ls)) :
    Calls Try.prog 20 #[.slice A n c, .int .i64 limit, .slice B n d] w fun e w' => e = .returned (.bool true) ∧ Below w.heap.size w w' := by
  have g1 : decide ((300 : Int) < (n : Int)) = false := by simp; omega
  have g2 : decide (300 < n) = false := by simp; omega
  have g3 : ((n : Int) != (n : Int)) = false := by simp
  have C1 := fun wx (h : Below w.heap.size w wx) => lens_any wx A n c ks limit hn (by omega) (by omega) (by omega) h32 ((ha.below h).mono h.size)
  unfold LensPost at C1
  have C2 := Lib.hid (fun wx (h : Below w.heap.size w wx) => refkraft_any wx B n d ls hm (by omega) ((hb.below h).mono h.size))
  by_cases hE : lensE ks limit = 0
  · have e1 := lensO_length hE
    have S1 := Lib.hid (lensO_small (ks := ks) (limit := limit))
    obtain ⟨a1, a2⟩ := costO_lens hE
    have hb1 : costE ks ls = 0 := by unfold costE; rw [if_pos ⟨by omega, by omega⟩]
    have hb2 : costO ks ls = costV ks ls := by unfold costO; rw [if_pos hb1]
    obtain ⟨_, L, hL, q1, q2, hp9, he9⟩ := ok_parts hE
    clear hp9 he9
    have hbest : kraft ls ≤ 32768 → (∀ s, s < n → ls.getD s 0 ≤ L) → (∀ s, s < n → kOf ks s ≠ 0 → 1 ≤ ls.getD s 0) → costO ks (lensO ks limit) ≤ costO ks ls := by
      intro h1 h2 h3
      rw [a2, hb2]
      subst hL
      exact lens_best hE (by omega) (by rw [hn]; exact h2) (by rw [hn]; exact h3) h1
    have C3 := Lib.hid (fun (wx : World) (B : Option Addr) (m d : Nat) (ls : List Nat) (h : Below w.heap.size w wx) hm hM h8 hb => cost_any wx A B n c m d ks ls hn hm (by omega) hM h32 h8 ((ha.below h).mono h.size) hb)
    rw [hE, e1, hn] at C1
    rw [hn] at e1
    obtain ⟨kv, hkv⟩ : ∃ kv, kv = kraftV ls := ⟨_, rfl⟩
    obtain ⟨ke, hke⟩ : ∃ ke, ke = kraftE ls := ⟨_, rfl⟩
    rw [← hkv, ← hke] at C2
    have hkk : ke = 0 → kv = kraft ls := by
      intro h
      rw [hke] at h
      rw [hkv]
      unfold kraftE at h
      unfold kraftV
      split at h
      · rename_i hg; rw [if_pos hg]
      · cases h
    have HKK := Lib.hid hkk
    clear a2 hb2 hkv hke hkk
    generalize lensO ks limit = l1 at *
    have HN := Lib.hid hn
    have HM := Lib.hid hm
    have HL1 := Lib.hid e1
    have HBEST := Lib.hid hbest
    have HA1 := Lib.hid a1
    have HB1 := Lib.hid hb1
    have H8 := Lib.hid h8
    have D1 := Lib.hid C1
    have HLL := Lib.hid hL
    have HA := Lib.hid ha
    have HB := Lib.hid hb
    clear hE e1 hbest a1 hb1 h8 hn hm C1 h32 ha hb
    subst hL
    go_enter Try.func20, Try.ntmps20
    go_wp2_with fail
    refine (alive07 _).mono ?_
    rintro e w1 ⟨rfl, hb1⟩
    go_wp2_with fail
    refine (D1.out _ hb1).mono ?_
    rintro e w2 ⟨A2, c2, rfl, hr2, hwf2, hb2⟩
    have hb12 : Below w.heap.size w w2 := bel_step hb2 hb1.size hb1
    have HR2 := Lib.hid hr2
    clear hr2 hwf2
    go_wp2_with fail
    refine (C2.out _ hb12).mono ?_
    rintro e w3 ⟨rfl, rfl⟩
    by_cases hke : ke = 0
    · subst hke
      have hkv := HKK.out rfl
      subst hkv
      by_cases hkr : 32768 < kraft ls
      · generalize kraft ls = kr at *
        have k1 : decide (32768 < kr) = true := by simpa using hkr
        have k2 : decide ((32768 : Int) < (kr : Int)) = true := by simp; omega
        go_wp2_with fail
        go_ret
        exact ⟨rfl, hb12⟩
      · have HKR : Hid (kraft ls ≤ 32768) := by show _ ≤ _; omega
        have k1 : decide (32768 < kraft ls) = false := by simpa using hkr
        have k2 : decide ((32768 : Int) < (kraft ls : Int)) = false := by simp; omega
        generalize kraft ls = kr at *
        have HA2 := Lib.hid (HA.out.below hb12)
        have HB2 := Lib.hid (HB.out.below hb12)
        clear hkr
        go_wp2_with fail
        go_loop [10] (fun iv => ∃ i : Nat, i ≤ n ∧ iv = .int .i64 i ∧ Hid (∀ s, s < i → ls.getD s 0 ≤ L) ∧ Hid (∀ s, s < i → kOf ks s ≠ 0 → 1 ≤ ls.getD s 0)) (fun i => n - (intOf i).toNat)
        case atStart => exact ⟨0, by omega, rfl, (fun s h => by omega), (fun s h => by omega)⟩
        case round =>
          clear k1 k2
          obtain ⟨i, hi, rfl, hS1, hS2⟩ := hrel
          by_cases hlt : i < n
          · obtain ⟨ob, off, k, rfl, hob, hk, c1⟩ := num_cell HA2.out HN.out hlt
            obtain ⟨lb, loff, x, rfl, hlb, hx, c0⟩ := num_cell HB2.out HM.out hlt
            have hx8 := H8.out x (List.mem_of_getElem? hx)
            have x0 : (0 : Int) ≤ (i : Int) := by omega
            have x1 : (i : Int) < (n : Int) := by omega
            have hgx : ls.getD i 0 = x := by rw [List.getD_eq_getElem?_getD, hx]; rfl
            have hgk : kOf ks i = k := by unfold kOf; rw [List.getD_eq_getElem?_getD, hk]; rfl
            have HGX := Lib.hid hgx
            have HGK := Lib.hid hgk
            clear hx hk hgx hgk
            by_cases hbig : L < x
            · have k3 : decide (L < x) = true := by simpa using hbig
              have k4 : decide ((L : Int) < (x : Int)) = true := by simpa using hbig
              go_wp2_with fail
              go_ret
              go_light
              exact ⟨rfl, hb12⟩
            · have k3 : decide (L < x) = false := by simpa using hbig
              have k4 : decide ((L : Int) < (x : Int)) = false := by simp; omega
              have hn1 : Hid (∀ s, s < i + 1 → ls.getD s 0 ≤ L) := by
                intro s hs
                by_cases h : s = i
                · subst h; rw [HGX.out]; omega
                · exact hS1.out s (by omega)
              by_cases hk0 : k = 0
              · have hn2 : Hid (∀ s, s < i + 1 → kOf ks s ≠ 0 → 1 ≤ ls.getD s 0) := by
                  intro s hs hks
                  by_cases h : s = i
                  · subst h; exact absurd (HGK.out.trans hk0) hks
                  · exact hS2.out s (by omega) hks
                subst hk0
                go_wp2_with fail
                go_round
                case rel => go_light; exact ⟨i + 1, by omega, by go_num, hn1, hn2⟩
                case measure => go_light; simp [intOf]; omega
              · have hkp : 0 < k := by omega
                have k5 : decide (0 < k) = true := by simpa using hkp
                have k6 : decide ((0 : Int) < (k : Int)) = true := by simpa using hkp
                by_cases hx0 : x = 0
                · subst hx0
                  clear hk0
                  go_wp2_with fail
                  go_ret
                  go_light
                  exact ⟨rfl, hb12⟩
                · have k7 : ((x : Int) == 0) = false := by simp; omega
                  have hn2 : Hid (∀ s, s < i + 1 → kOf ks s ≠ 0 → 1 ≤ ls.getD s 0) := by
                    intro s hs hks
                    by_cases h : s = i
                    · subst h; rw [HGX.out]; omega
                    · exact hS2.out s (by omega) hks
                  clear hk0 hx0
                  go_wp2_with fail
                  go_round
                  case rel => go_light; exact ⟨i + 1, by omega, by go_num, hn1, hn2⟩
                  case measure => go_light; simp [intOf]; omega
          · obtain rfl : i = n := by omega
            have hle := HBEST.out HKR.out hS1.out hS2.out
            have HLE := Lib.hid hle
            clear hle hS1 hS2
            go_wp2_with fail
            refine (C3.out w2 A2 i c2 l1 hb12 HL1.out (by omega) S1.out HR2.out).mono ?_
            rintro e w4 ⟨rfl, hd4⟩
            have hb14 := Drawn.bel hd4 hb12
            rw [HA1.out]
            go_wp2_with fail
            refine (C3.out w4 B i d ls hb14 HM.out (by omega) H8.out ((HB.out.below hb14).mono hb14.size)).mono ?_
            rintro e w5 ⟨rfl, hd5⟩
            have hb15 := Drawn.bel hd5 hb14
            rw [HB1.out]
            have hle := HLE.out
            go_wp2_with fail
            go_ret
            exact ⟨by simp, hb15⟩
    · have hb : (ke != 0) = true := by simpa using hke
      clear hke
      go_wp2_with fail
      go_ret
      exact ⟨rfl, hb12⟩
  · have hEb : (lensE ks limit != 0) = true := by simpa using hE
    generalize lensE ks limit = er at *
    have D1 := Lib.hid C1
    clear hn hE ha h32 C1 hb hm h8
    go_enter Try.func20, Try.ntmps20
    go_wp2_with fail
    refine (alive07 _).mono ?_
    rintro e w1 ⟨rfl, hb1⟩
    go_wp2_with fail
    refine (D1.out _ hb1).mono ?_
    rintro e w2 ⟨A2, c2, rfl, hr2, hwf2, hb2⟩
    have hb12 : Below w.heap.size w w2 := bel_step hb2 hb1.size hb1
    go_wp2_with fail
    go_ret
    exact ⟨rfl, hb12⟩
end Go.Proofs.Ytdfpcnldfibceaa.Lens
