/-
  The walks of the reference's Kraft and Check of lengths.
-/
import Derived.Test.YtidclmmnfienlaaDoorCanonBase
namespace Go.Proofs.YtidclmmnfienlaaDoor.Canon
open Go.RowKit Go.Proofs.YtidclmmnfienlaaDoor.Mem

theorem kraft_snoc (ls : List Nat) (x : Nat) : kraft (ls ++ [x]) = kraft ls + if x = 0 then 0 else 2 ^ (15 - x) := by
  unfold kraft
  simp
theorem kraft_le (ls : List Nat) : kraft ls ≤ ls.length * 32768 := by
  induction ls with
  | nil => simp [kraft]
  | cons x ls ih =>
    have h3 : 2 ^ (15 - x) ≤ 2 ^ 15 := Nat.pow_le_pow_right (by omega) (by omega)
    unfold kraft at ih ⊢
    rw [List.map_cons, List.sum_cons, List.length_cons, Nat.add_mul]
    split <;> omega
theorem used_snoc (ls : List Nat) (x : Nat) : used (ls ++ [x]) = used ls + if x = 0 then 0 else 1 := by
  unfold used
  rw [List.countP_append]
  by_cases h : x = 0 <;> simp [h]
theorem used_le (ls : List Nat) : used ls ≤ ls.length := List.countP_le_length
theorem bad_at {ls : List Nat} {k x : Nat} (hx : ls[k]? = some x) (h : 15 < x) : goodB ls = false := by
  unfold goodB
  have : ls.all (fun x => decide (x ≤ 15)) = false := by
    rw [List.all_eq_false]
    exact ⟨x, List.mem_of_getElem? hx, by simpa using h⟩
  rw [this, Bool.and_false]
theorem good_all {ls : List Nat} (h1 : ls.length ≤ 300) (h2 : ∀ x ∈ ls, x ≤ 15) : goodB ls = true := by
  unfold goodB
  rw [Bool.and_eq_true, List.all_eq_true]
  exact ⟨by simpa using h1, fun x hx => by simpa using h2 x hx⟩
theorem bad_long {ls : List Nat} (h : 300 < ls.length) : goodB ls = false := by
  unfold goodB
  have : decide (ls.length ≤ 300) = false := by simp; omega
  rw [this, Bool.false_and]

def kraftV (ls : List Nat) : Nat := if goodB ls = true then kraft ls else 0
def kraftE (ls : List Nat) : Int := if goodB ls = true then 0 else 13

set_option maxHeartbeats 1000000 in
set_option maxRecDepth 100000 in
theorem refkraft_any (w : World) (A : Option Addr) (n c : Nat) (ls : List Nat) (hn : ls.length = n) (hN : n ≤ 9223372036854775807) (ha : Row w w.heap.size A n 1 (numF .u8 ls)) :
    Calls Tryd.prog 55 #[.slice A n c] w fun e w' => e = .returned (.tuple #[.int .i64 (kraftV ls : Nat), .int .i64 (kraftE ls)]) ∧ w = w' := by
  have HN := Lib.hid hn
  clear hn
  by_cases hbig : 300 < n
  · have hb : goodB ls = false := bad_long (by rw [HN.out]; exact hbig)
    have HV : Hid (kraftV ls = 0) := by show _ = _; unfold kraftV; rw [hb]; rfl
    have HE : Hid (kraftE ls = 13) := by show _ = _; unfold kraftE; rw [hb]; rfl
    clear hb
    go_enter Tryd.func55, Tryd.ntmps55
    go_wp2_with fail
    go_ret2
    exact ⟨by rw [HV.out, HE.out]; rfl, rfl⟩
  · go_enter Tryd.func55, Tryd.ntmps55
    go_wp2_with fail
    go_loop [4, 5] (fun s i => ∃ (k S : Nat), k ≤ n ∧ i = .int .i64 k ∧ s = .int .i64 S ∧ Hid (S = kraft (ls.take k)) ∧ S ≤ 9830400 ∧ Hid (∀ x ∈ ls.take k, x ≤ 15)) (fun _ i => n - (intOf i).toNat)
    case atStart => exact ⟨0, 0, by omega, rfl, rfl, rfl, by omega, fun x hx => by simp at hx⟩
    case round =>
      obtain ⟨k, S, hk, rfl, rfl, hS, bS, hsm⟩ := hrel
      by_cases hlt : k < n
      · obtain ⟨b, off, x, rfl, hbb, hx, c0⟩ := num_cell ha HN.out hlt
        have x0 : (0 : Int) ≤ (k : Int) := by omega
        have x1 : (k : Int) < (n : Int) := by omega
        by_cases h15 : 15 < x
        · have hb := bad_at hx h15
          have HV : Hid (kraftV ls = 0) := by show _ = _; unfold kraftV; rw [hb]; rfl
          have HE : Hid (kraftE ls = 13) := by show _ = _; unfold kraftE; rw [hb]; rfl
          clear hb hx
          go_wp2_with fail
          go_ret2
          go_light
          exact ⟨by rw [HV.out, HE.out]; rfl, rfl⟩
        · have htk := take_snoc hx
          have hks : kraft (ls.take (k + 1)) = kraft (ls.take k) + if x = 0 then 0 else 2 ^ (15 - x) := by rw [htk, kraft_snoc]
          have hkl := kraft_le (ls.take (k + 1))
          rw [List.length_take, hks, ← hS.out] at hkl
          have hsn : ∀ z ∈ ls.take (k + 1), z ≤ 15 := by
            intro z hz
            rw [htk, List.mem_append, List.mem_singleton] at hz
            rcases hz with hz | rfl
            · exact hsm.out z hz
            · omega
          have HSN := Lib.hid hsn
          have HKS := Lib.hid hks
          clear htk hks hsn hx
          by_cases hx0 : x = 0
          · subst hx0
            go_wp2_with fail
            go_round
            case rel =>
              go_light
              exact ⟨k + 1, S, by omega, by go_num, rfl, by show S = kraft (ls.take (k + 1)); rw [HKS.out, ← hS.out]; simp, bS, HSN⟩
            case measure => go_light; simp [intOf]; omega
          · have hxp : 0 < x := by omega
            rw [if_neg hx0] at hkl HKS
            have HKL := Lib.hid hkl
            clear hkl hx0
            go_wp2_with fail
            go_loop [6, 7] (fun v j => ∃ (J W : Nat), J ≤ x ∧ j = .int .i64 J ∧ v = .int .i64 W ∧ Hid (W = 2 ^ (15 - J)) ∧ W ≤ 32768) (fun _ j => x - (intOf j).toNat)
            case atStart => exact ⟨0, 32768, by omega, rfl, rfl, rfl, by omega⟩
            case round =>
              obtain ⟨J, W, hJ, rfl, rfl, hW, bW⟩ := hrel
              by_cases hltJ : J < x
              · go_wp2_with fail
                go_round
                case rel =>
                  go_light
                  refine ⟨J + 1, W / 2, by omega, by go_num, by go_num, ?_, by omega⟩
                  show W / 2 = 2 ^ (15 - (J + 1))
                  rw [hW.out, show 15 - J = (15 - (J + 1)) + 1 by omega, Nat.pow_succ]
                  omega
                case measure => go_light; simp [intOf]; omega
              · obtain rfl : J = x := by omega
                go_wp2_with fail
                go_round
                case rel =>
                  go_light
                  have := HKL.out
                  rw [← hW.out] at this
                  exact ⟨k + 1, S + W, by omega, by go_num, by go_num, by show S + W = kraft (ls.take (k + 1)); rw [HKS.out, ← hS.out, ← hW.out], by omega, HSN⟩
                case measure => go_light; simp [intOf]; omega
      · obtain rfl : k = n := by omega
        have hall : ls.take k = ls := List.take_of_length_le (by have := HN.out; omega)
        have hgood : goodB ls = true := good_all (by have := HN.out; omega) (by have := hsm.out; rw [hall] at this; exact this)
        have HV : Hid (kraftV ls = S) := by show _ = _; unfold kraftV; rw [hgood, if_pos rfl, hS.out, hall]
        have HE : Hid (kraftE ls = 0) := by show _ = _; unfold kraftE; rw [hgood]; rfl
        clear hall hgood
        go_wp2_with fail
        go_ret2
        go_light
        exact ⟨by rw [HV.out, HE.out]; rfl, rfl⟩

theorem checkE_ref {ls : List Nat} (hg : goodB ls = true) : checkE ls = if used ls = 0 ∨ (used ls = 1 ∧ cnt ls 1 = 1) ∨ kraft ls = 32768 then 0 else 7 := by
  obtain ⟨_, h2⟩ := good_of hg
  rw [checkE_of ls (cn ls) (fun _ => rfl), wsF_cn, wnF_cn, wsum_kraft ls h2, wnum_used ls h2, hg]
  simp [cn]

set_option maxHeartbeats 1000000 in
set_option maxRecDepth 100000 in
theorem refcheck_any (w : World) (A : Option Addr) (n c : Nat) (ls : List Nat) (hn : ls.length = n) (hN : n ≤ 9223372036854775807) (ha : Row w w.heap.size A n 1 (numF .u8 ls)) :
    Calls Tryd.prog 42 #[.slice A n c] w fun e w' => e = .returned (.int .i64 (checkE ls)) ∧ w = w' := by
  have C := Lib.hid (refkraft_any w A n c ls hn hN ha)
  have HN := Lib.hid hn
  clear hn
  cases hg : goodB ls
  · have HV : Hid (kraftV ls = 0) := by show _ = _; unfold kraftV; rw [hg]; rfl
    have HE : Hid (kraftE ls = 13) := by show _ = _; unfold kraftE; rw [hg]; rfl
    have HC : Hid (checkE ls = 7) := by show _ = _; unfold checkE; rw [okB_good hg]; rfl
    rw [HV.out, HE.out] at C
    clear hg
    go_enter Tryd.func42, Tryd.ntmps42
    go_wp2_with fail
    refine C.out.mono ?_
    rintro e w1 ⟨rfl, rfl⟩
    go_wp2_with fail
    go_ret
    exact ⟨by rw [HC.out]; rfl, rfl⟩
  · have HV : Hid (kraftV ls = kraft ls) := by show _ = _; unfold kraftV; rw [hg]; rfl
    have HE : Hid (kraftE ls = 0) := by show _ = _; unfold kraftE; rw [hg]; rfl
    have HC := Lib.hid (checkE_ref hg)
    have hkl := kraft_le ls
    have hln := (good_of hg).1
    rw [HN.out] at hkl hln
    rw [HV.out, HE.out] at C
    generalize kraft ls = K at *
    clear hg HV HE
    go_enter Tryd.func42, Tryd.ntmps42
    go_wp2_with fail
    refine C.out.mono ?_
    rintro e w1 ⟨rfl, rfl⟩
    go_wp2_with fail
    go_loop [5, 6, 7] (fun a b i => ∃ (k U O : Nat), k ≤ n ∧ i = .int .i64 k ∧ a = .int .i64 U ∧ b = .int .i64 O ∧ Hid (U = used (ls.take k)) ∧ Hid (O = cnt (ls.take k) 1) ∧ U ≤ 300 ∧ O ≤ 300) (fun _ _ i => n - (intOf i).toNat)
    case atStart => exact ⟨0, 0, 0, by omega, rfl, rfl, rfl, rfl, rfl, by omega, by omega⟩
    case round =>
      obtain ⟨k, U, O, hk, rfl, rfl, rfl, hU, hO, bU, bO⟩ := hrel
      by_cases hlt : k < n
      · obtain ⟨b, off, x, rfl, hbb, hx, c0⟩ := num_cell ha HN.out hlt
        have x0 : (0 : Int) ≤ (k : Int) := by omega
        have x1 : (k : Int) < (n : Int) := by omega
        have htk := take_snoc hx
        have h1 : used (ls.take (k + 1)) = U + if x = 0 then 0 else 1 := by rw [htk, used_snoc, hU.out]
        have h2 : cnt (ls.take (k + 1)) 1 = O + if x = 1 then 1 else 0 := by rw [htk, cnt_snoc, hO.out]
        have l1 := used_le (ls.take (k + 1))
        have l2 := cnt_le (ls.take (k + 1)) 1
        rw [List.length_take] at l1 l2
        rw [h1] at l1
        rw [h2] at l2
        have H1 := Lib.hid h1
        have H2 := Lib.hid h2
        have L1 := Lib.hid l1
        have L2 := Lib.hid l2
        clear htk h1 h2 l1 l2 hx
        by_cases hx0 : x = 0
        · subst hx0
          go_wp2_with fail
          go_round
          case rel =>
            go_light
            exact ⟨k + 1, U, O, by omega, by go_num, rfl, rfl, by show U = used (ls.take (k + 1)); rw [H1.out]; simp, by show O = cnt (ls.take (k + 1)) 1; rw [H2.out]; simp, bU, bO⟩
          case measure => go_light; simp [intOf]; omega
        · have hxp : 0 < x := by omega
          rw [if_neg hx0] at H1 L1
          by_cases hx1 : x = 1
          · subst hx1
            go_wp2_with fail
            go_round
            case rel =>
              go_light
              have a1 := L1.out
              have a2 := L2.out
              rw [if_pos rfl] at a2
              exact ⟨k + 1, U + 1, O + 1, by omega, by go_num, by go_num, by go_num, by show U + 1 = used (ls.take (k + 1)); rw [H1.out], by show O + 1 = cnt (ls.take (k + 1)) 1; rw [H2.out]; simp, by omega, by omega⟩
            case measure => go_light; simp [intOf]; omega
          · have hxb : ((x : Int) == 1) = false := by simp; omega
            rw [if_neg hx1] at H2 L2
            clear hx0
            go_wp2_with fail
            go_round
            case rel =>
              go_light
              have a1 := L1.out
              exact ⟨k + 1, U + 1, O, by omega, by go_num, by go_num, rfl, by show U + 1 = used (ls.take (k + 1)); rw [H1.out], by show O = cnt (ls.take (k + 1)) 1; rw [H2.out]; simp, by omega, bO⟩
            case measure => go_light; simp [intOf]; omega
      · obtain rfl : k = n := by omega
        have hall : ls.take k = ls := List.take_of_length_le (by have := HN.out; omega)
        have hU2 := hU.out
        have hO2 := hO.out
        rw [hall] at hU2 hO2
        have hc := HC.out
        rw [← hU2, ← hO2] at hc
        have HC2 := Lib.hid hc
        clear hall hU2 hO2 hc hU hO HC
        go_wp2_with fail
        all_goals
          go_ret
          go_light
          refine ⟨ret_int ?_, rfl⟩
          rw [HC2.out]
          first | (rw [if_pos (by omega)]; done) | (rw [if_neg (by omega)]; done) | (simp only [beq_iff_eq, ne_eq, beq_eq_false_iff_ne] at *; first | (rw [if_pos (by omega)]; done) | (rw [if_neg (by omega)]; done))
end Go.Proofs.YtidclmmnfienlaaDoor.Canon
