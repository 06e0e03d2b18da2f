/-
  The walk of the reference's W.Bytes.
-/
import Derived.Test.YtloakdiioaodaaaRefW
namespace Go.Proofs.Ytloakdiioaodaaa.Huff
open Go.RowKit Go.Proofs.Ytloakdiioaodaaa.Mem Go.Proofs.Ytloakdiioaodaaa.Canon Go.Proofs.Ytloakdiioaodaaa.Own

set_option maxHeartbeats 1000000 in
set_option maxRecDepth 100000 in
theorem rbytes_any (w : World) (g : Nat) (A : Option Addr) (q c : Nat) (bs : List Bool) (hq : bs.length = q) (hle : q ≤ 6000000) (hg : w.cell? ⟨g, 0, none⟩ = some (.slice A q c)) (hgl : g < w.heap.size) (ha : Row w w.heap.size A q 1 (numF .u8 (b01 bs))) :
    Calls Try.prog 40 #[.pointer (some ⟨g, 0, none⟩)] w fun e w' => ∃ v, e = .returned v ∧ w'.ownsRow w.heap.size 5 1 v (bytesOf bs).length (numL .u8 (bytesOf bs)) ∧ Below w.heap.size w w' := by
  obtain ⟨j0, hj0, hy0, hy1, hy2⟩ := info_parts info_u8
  have HQ := Lib.hid hq
  clear hq
  go_enter Try.func40, Try.ntmps40
  go_wp2_with fail
  go_loopw [3, 4] (fun u i wr => ∃ k : Nat, 8 * k ≤ q + 7 ∧ i = .int .i64 ((8 * k : Nat) : Int) ∧ wr.ownsRow w.heap.size 5 1 u k (numL .u8 ((List.range k).map (byteAt bs))) ∧ Below w.heap.size w wr) (fun _ i _ => q + 8 - (intOf i).toNat)
  case atStart => exact ⟨0, by omega, rfl, World.ownsRow_nil _ _ _ _, Below.refl _ _⟩
  case round =>
    obtain ⟨k, hk, rfl, hown, rbel⟩ := hrel
    have hbr := rbel.size
    have c0 := (rbel.cell (p := ⟨g, 0, none⟩) hgl).trans hg
    obtain ⟨va, vc, rfl⟩ := own_shape hown
    have hkb : k ≤ 800000 := by omega
    generalize hi : 8 * k = i at *
    have HI := Lib.hid hi
    clear hi
    by_cases hlt : i < q
    · go_wp2_with fail
      go_loop [5, 6] (fun a j => ∃ p x : Nat, i ≤ p ∧ p ≤ i + 8 ∧ j = .int .i64 (p : Nat) ∧ a = .int .i64 x ∧ Hid (x = accB bs i (p - i)) ∧ x < 256) (fun _ j => i + 8 - (intOf j).toNat)
      case atStart => exact ⟨i, 0, by omega, by omega, rfl, rfl, by show 0 = _; rw [Nat.sub_self]; rfl, by omega⟩
      case round =>
        obtain ⟨p, x, hp1, hp2, rfl, rfl, hx, hx2⟩ := hrel
        by_cases hm8 : p < i + 8
        · have hstep : accB bs i (p + 1 - i) = 2 * x + bit bs p := by
            rw [show p + 1 - i = (p - i) + 1 by omega, accB, ← hx.out, show i + (p - i) = p by omega]
          have hlt2 := accB_lt bs i (p + 1 - i)
          have hpw : 2 ^ (p + 1 - i) ≤ 2 ^ 8 := Nat.pow_le_pow_right (by omega) (by omega)
          rw [hstep] at hlt2
          by_cases hpq : p < q
          · obtain ⟨b, off, y, rfl, hbb, hy, d0⟩ := num_cell (ha.below rbel) (by rw [b01_length, HQ.out]) hpq
            have hyb : bit bs p = y := by rw [← b01_get, List.getD_eq_getElem?_getD, hy]; rfl
            rw [hyb] at hstep hlt2
            have HS := Lib.hid hstep
            have x0 : (0 : Int) ≤ (p : Int) := by omega
            have x1 : (p : Int) < (q : Int) := by omega
            have hb : 2 * x + y < 256 := by omega
            clear hx hstep hlt2 hpw hy hyb
            go_wp2_with fail
            go_round
            case measure => go_light; simp [intOf]; omega
            case rel =>
              go_light
              exact ⟨p + 1, 2 * x + y, by omega, by omega, by go_num, by go_num, HS.out.symm, hb⟩
          · rw [bit_out (by rw [HQ.out]; omega), Nat.add_zero] at hstep hlt2
            have HS := Lib.hid hstep
            have hb : 2 * x < 256 := by omega
            clear hx hstep hlt2 hpw
            go_wp2_with fail
            go_round
            case measure => go_light; simp [intOf]; omega
            case rel =>
              go_light
              exact ⟨p + 1, 2 * x, by omega, by omega, by go_num, by go_num, HS.out.symm, hb⟩
        · obtain rfl : p = i + 8 := by omega
          have hxb : x = byteAt bs k := by rw [hx.out, Nat.add_sub_cancel_left, ← HI.out, accB_byte]
          have HXB := Lib.hid hxb
          clear hx hxb
          go_wp2_with (at_builtin; refine wpList_app rfl (.tmp 42) (.tmp 45) 30 rfl w.heap.size 5 j0 _ 1 1 Try.underlying30 hj0 hy0 hy1 hy2 rfl (by decide) _ _ _ (by rfl) (hown.alloc _) _ 1 1 [.int .u8 (x : Nat)] (by rfl) (Src.of_blk (Blk.made _ _ _) 1 1 1 rfl) (by intro u hu; simp at hu; subst hu; rfl) (by unfold maxLen; omega) (by omega) (by simp; omega) ?_; intro v3 w3 hown3 hg3 hat3)
          go_roundw
          case measure => go_light; simp [intOf]; omega
          case rel =>
            go_light
            have hi := HI.out
            refine ⟨k + 1, by omega, by rw [← hi]; go_num, ?_, (bel_alloc hbr rbel).grown hg3 (by simp; omega) (fun y hy => (World.ownsRow.lt hown y hy).1)⟩
            rw [List.range_succ, List.map_append, List.map_cons, List.map_nil, numL_snoc, ← HXB.out]
            exact hown3
    · have hkq : (bytesOf bs).length = k := by rw [bytesOf_length, HQ.out]; have := HI.out; omega
      have hbo : bytesOf bs = (List.range k).map (byteAt bs) := by unfold bytesOf; congr 2; rw [← hkq, bytesOf_length]
      have HK := Lib.hid hkq
      have HB := Lib.hid hbo
      clear hkq hbo
      go_wp2_with fail
      go_ret
      refine ⟨_, rfl, ?_, rbel⟩
      rw [HK.out, HB.out]
      exact hown
end Go.Proofs.Ytloakdiioaodaaa.Huff
