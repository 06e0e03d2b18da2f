/-
  The walk of firkinref08.Write: lengths as bits, by the reference.
-/
import Derived.Test.YtidclmmnfienlaaGreatDoorCanonW
import Derived.Test.YtidclmmnfienlaaGreatDoorRefW
import Derived.Test.YtidclmmnfienlaaGreatDoorCanonCR
namespace Go.Proofs.YtidclmmnfienlaaGreatDoor.Huff
open Go.RowKit Go.Proofs.YtidclmmnfienlaaGreatDoor.Mem Go.Proofs.YtidclmmnfienlaaGreatDoor.Canon Go.Proofs.YtidclmmnfienlaaGreatDoor.Own

set_option maxHeartbeats 1000000 in
set_option maxRecDepth 100000 in
theorem rcwrite_any (K : Nat → Prop) (w : World) (g base : Nat) (v : Value) (bs : List Bool) (A : Option Addr) (n c : Nat) (ls : List Nat) (hn : ls.length = n) (hN : n ≤ 9223372036854775807) (hok : okB ls = true) (hKA : 0 < n → ∀ p, A = some p → K p.block) (ha : Row w w.heap.size A n 1 (numF .u8 ls)) (hle : bs.length + 10 * n ≤ 5000000) (hW : RW K w base g bs v) :
    Calls Tryz.prog 129 #[.pointer (some ⟨g, 0, none⟩), .slice A n c] w fun e w' => e = .returned (.int .i64 0) ∧ ∃ v', RW K w' base g (bs ++ wrBits ls) v' ∧ Kept K w w' := by
  have hE : checkE ls = 0 := by unfold checkE; rw [if_pos hok]
  have C0 := refcheck_any w A n c ls hn hN ha
  rw [hE] at C0
  have C0 := Lib.hid C0
  obtain ⟨_, hsm, _⟩ := ok_parts hok
  have HN := Lib.hid hn
  have HSM := Lib.hid hsm
  have HLE := Lib.hid hle
  have HW := Lib.hid hW
  have HA := Lib.hid ha
  have HKA := Lib.hid hKA
  clear hn hok hE hsm hle hW ha hKA
  go_enter Tryz.func129, Tryz.ntmps129
  go_wp2_with fail
  refine C0.out.mono ?_
  rintro e w1 ⟨rfl, rfl⟩
  go_wp2_with fail
  go_loopw [5] (fun i wr => ∃ (k : Nat) (v : Value) (b : List Bool), k ≤ n ∧ i = .int .i64 k ∧ Hid (RW K wr base g b v) ∧ Hid (b ++ wrGo ls n k = bs ++ wrBits ls) ∧ Hid (b.length ≤ bs.length + 10 * k) ∧ Hid (Kept K w wr)) (fun i _ => n - (intOf i).toNat)
  case atStart => exact ⟨0, v, bs, by omega, rfl, HW.out, by show _ = _; unfold wrBits; rw [HN.out], by show _ ≤ _; omega, Kept.refl _ _⟩
  case round =>
    clear HW
    obtain ⟨k, v1, b1, hk, rfl, HW, HG, HL, HK⟩ := hrel
    have hg0 := HG.out
    have hl0 := HL.out
    have hle0 := HLE.out
    by_cases hlt : k < n
    · obtain ⟨ob, off, x, rfl, hbb, hx, c0⟩ := num_cell HA.out HN.out hlt
      have KOB := Lib.hid (HKA.out (by omega) _ rfl)
      simp only at KOB
      have c1 := (World.cell?_of_block (a := ⟨ob, off + k, none⟩) (HK.out.block ob KOB.out)).trans c0
      have hx15 := HSM.out x (List.mem_of_getElem? hx)
      have y0 : (0 : Int) ≤ (k : Int) := by omega
      have y1 : (k : Int) < (n : Int) := by omega
      have hgx : ls.getD k 0 = x := by rw [List.getD_eq_getElem?_getD, hx]; rfl
      have hst : wrGo ls n k = wrGo ls (n - k - 1 + 1) k := wrGo_fuel ls _ _ _ (by have := HN.out; omega) (by have := HN.out; omega)
      rw [hst] at hg0
      unfold wrGo at hg0
      rw [HN.out, if_pos hlt, hgx] at hg0
      have D := Lib.hid (rput_any K wr g base v1 b1 x 4 (by omega) (by omega) (by omega) HW.out)
      have s1 : IntKind.u64.wrap (x : Int) = (x : Int) := by rw [IntKind.wrap_u64]; omega
      by_cases h0 : x = 0
      · subst h0
        rw [if_pos rfl] at hg0
        have hr0 := zrun_fits ls 64 k (by have := HN.out; omega)
        have hx0 : ls[k]? = some 0 := hx
        have hrp : 1 ≤ zrun ls k 64 := by have := zrun_pos hx0 63; show 1 ≤ zrun ls k (63 + 1); omega
        have hr64 := zrun_le ls 64 k
        rw [HN.out] at hr0
        rw [wrGo_fuel ls (n - k - 1) n (k + zrun ls k 64) (by have := HN.out; omega) (by have := HN.out; omega)] at hg0
        have HG0 := Lib.hid hg0
        have HX0 := Lib.hid hx0
        clear hg0 hx c0 hgx hst hr0 hx0 hrp hr64 HG hle0 hl0 HW
        go_wp2_with fail
        refine D.out.mono ?_
        rintro e w2 ⟨rfl, v2, hW2, hk2⟩
        have c2 := (World.cell?_of_block (a := ⟨ob, off + k, none⟩) (hk2.block ob KOB.out)).trans c1
        have HW2 := Lib.hid hW2
        have HK2 : Hid (Kept K w w2) := HK.out.trans hk2
        clear hW2 hk2 D HK c1
        go_wp2_with fail
        go_loopw [5, 6] (fun iv rv wx => ∃ s : Nat, s ≤ 63 ∧ k + s < n ∧ iv = .int .i64 ((k : Int) + (s : Int)) ∧ rv = .int .i64 s ∧ Hid (∀ j, j < s + 1 → ls[k + j]? = some 0) ∧ wx = w2) (fun _ rv _ => 64 - (intOf rv).toNat)
        case atStart => exact ⟨0, by omega, by omega, by first | rfl | simp, rfl, (fun j hj => by obtain rfl : j = 0 := (by omega); exact HX0.out), rfl⟩
        case round =>
          obtain ⟨s, hs2, hs3, rfl, rfl, hz, rfl⟩ := hrel
          have done : (s + 1 = 64 ∨ ls[k + (s + 1)]? ≠ some 0) → Hid (zrun ls k 64 = s + 1) := fun h => zrun_stop (by omega) hz.out h
          have x1 : IntKind.i64.wrap ((k : Int) + (s : Int) + 1) = (k : Int) + (s : Int) + 1 := by rw [IntKind.wrap_i64]; omega
          by_cases hB : k + (s + 1) < n
          · obtain ⟨_, _, y, e9, _, hy, d0⟩ := num_cell HA.out HN.out hB
            injection e9 with e9
            injection e9 with e8 e7
            subst e8 e7
            have d1 := (World.cell?_of_block (a := ⟨ob, off + (k + (s + 1)), none⟩) (HK2.out.block ob KOB.out)).trans d0
            have bf1 : decide ((k : Int) + (s : Int) + 1 < (n : Int)) = true := by simp; omega
            have bf3 : (0 : Int) ≤ (k : Int) + (s : Int) + 1 := by omega
            have bf4 : (k : Int) + (s : Int) + 1 < (n : Int) := by omega
            have bf5 : ((k : Int) + (s : Int) + 1).toNat = k + (s + 1) := by omega
            by_cases hC : y = 0
            · subst hC
              by_cases hA : s < 63
              · have a1 : decide ((s : Int) < 63) = true := by simp; omega
                have a2 : decide (s < 63) = true := by simpa using hA
                have hz2 : Hid (∀ j, j < s + 1 + 1 → ls[k + j]? = some 0) := by
                  intro j hj
                  by_cases e : j = s + 1
                  · subst e; exact hy
                  · exact hz.out j (by omega)
                have hA2 : s + 1 ≤ 63 := hA
                clear hy d0 done
                go_wp2_with fail
                go_roundw
                case measure => go_light; simp [intOf]; omega
                case rel => go_light; refine ⟨s + 1, hA2, hB, by go_num, by go_num, hz2, ?_⟩; first | rfl | trivial
              · have a1 : decide ((s : Int) < 63) = false := by simp; omega
                have a2 : decide (s < 63) = false := by simpa using hA
                have HZ := done (.inl (by omega))
                clear hy d0 done
                obtain ⟨q, hq⟩ : ∃ q, q = s := ⟨_, rfl⟩
                have x3 : IntKind.u64.wrap (s : Int) = (s : Int) := by rw [IntKind.wrap_u64]; omega
                have hgz := HG0.out
                rw [HZ.out, show s + 1 - 1 = s by omega, ← List.append_assoc, ← List.append_assoc] at hgz
                have HGZ := Lib.hid hgz
                have D2 := Lib.hid (rput_any K wr g base v2 (b1 ++ msb 0 4 4) s 6 (show s < 64 by omega) (by omega) (by rw [List.length_append, msb_length]; have := HL.out; have := HLE.out; omega) HW2.out)
                have HL0 : Hid ((b1 ++ msb 0 4 4 ++ msb s 6 6).length ≤ bs.length + 10 * (k + (s + 1))) := by show _ ≤ _; rw [List.length_append, List.length_append, msb_length, msb_length]; have := HL.out; omega
                clear hq hgz HG0
                go_wp2_with fail
                refine D2.out.mono ?_
                rintro e w3 ⟨rfl, v3, hW3, hk3⟩
                have HW3 := Lib.hid hW3
                have HK3 : Hid (Kept K w w3) := HK2.out.trans hk3
                clear hW3 hk3 D2
                go_wp2_with fail
                go_roundw
                case measure => go_light; simp [intOf]; omega
                case rel => go_light; exact ⟨k + (s + 1), v3, _, by omega, by go_num, HW3.out, HGZ.out, HL0.out, HK3.out⟩
            · have c5 : ((y : Int) == 0) = false := by simp; omega
              have HZ := done (.inr (by rw [hy]; simpa using hC))
              clear hy d0 hC done
              obtain ⟨q, hq⟩ : ∃ q, q = s := ⟨_, rfl⟩
              have x3 : IntKind.u64.wrap (s : Int) = (s : Int) := by rw [IntKind.wrap_u64]; omega
              have hgz := HG0.out
              rw [HZ.out, show s + 1 - 1 = s by omega, ← List.append_assoc, ← List.append_assoc] at hgz
              have HGZ := Lib.hid hgz
              have D2 := Lib.hid (rput_any K wr g base v2 (b1 ++ msb 0 4 4) s 6 (show s < 64 by omega) (by omega) (by rw [List.length_append, msb_length]; have := HL.out; have := HLE.out; omega) HW2.out)
              have HL0 : Hid ((b1 ++ msb 0 4 4 ++ msb s 6 6).length ≤ bs.length + 10 * (k + (s + 1))) := by show _ ≤ _; rw [List.length_append, List.length_append, msb_length, msb_length]; have := HL.out; omega
              clear hq hgz HG0
              go_wp2_with fail
              refine D2.out.mono ?_
              rintro e w3 ⟨rfl, v3, hW3, hk3⟩
              have HW3 := Lib.hid hW3
              have HK3 : Hid (Kept K w w3) := HK2.out.trans hk3
              clear hW3 hk3 D2
              go_wp2_with fail
              go_roundw
              case measure => go_light; simp [intOf]; omega
              case rel => go_light; exact ⟨k + (s + 1), v3, _, by omega, by go_num, HW3.out, HGZ.out, HL0.out, HK3.out⟩
          · have bf1 : decide ((k : Int) + (s : Int) + 1 < (n : Int)) = false := by simp; omega
            have HZ := done (.inr (by rw [List.getElem?_eq_none (by have := HN.out; omega)]; simp))
            clear done
            obtain ⟨q, hq⟩ : ∃ q, q = s := ⟨_, rfl⟩
            have x3 : IntKind.u64.wrap (s : Int) = (s : Int) := by rw [IntKind.wrap_u64]; omega
            have hgz := HG0.out
            rw [HZ.out, show s + 1 - 1 = s by omega, ← List.append_assoc, ← List.append_assoc] at hgz
            have HGZ := Lib.hid hgz
            have D2 := Lib.hid (rput_any K wr g base v2 (b1 ++ msb 0 4 4) s 6 (show s < 64 by omega) (by omega) (by rw [List.length_append, msb_length]; have := HL.out; have := HLE.out; omega) HW2.out)
            have HL0 : Hid ((b1 ++ msb 0 4 4 ++ msb s 6 6).length ≤ bs.length + 10 * (k + (s + 1))) := by show _ ≤ _; rw [List.length_append, List.length_append, msb_length, msb_length]; have := HL.out; omega
            clear hq hgz HG0
            go_wp2_with fail
            refine D2.out.mono ?_
            rintro e w3 ⟨rfl, v3, hW3, hk3⟩
            have HW3 := Lib.hid hW3
            have HK3 : Hid (Kept K w w3) := HK2.out.trans hk3
            clear hW3 hk3 D2
            go_wp2_with fail
            go_roundw
            case measure => go_light; simp [intOf]; omega
            case rel => go_light; exact ⟨k + (s + 1), v3, _, by omega, by go_num, HW3.out, HGZ.out, HL0.out, HK3.out⟩
      · have hxp : 0 < x := by omega
        rw [if_neg h0, wrGo_fuel ls (n - k - 1) n (k + 1) (by have := HN.out; omega) (by have := HN.out; omega), ← List.append_assoc] at hg0
        have k1 : decide (0 < x) = true := by simpa using hxp
        have k2 : decide ((0 : Int) < (x : Int)) = true := by simpa using hxp
        have HG0 := Lib.hid hg0
        have HL0 : Hid ((b1 ++ msb x 4 4).length ≤ bs.length + 10 * (k + 1)) := by show _ ≤ _; rw [List.length_append, msb_length]; omega
        clear hg0 hl0 hle0 hx c0 hgx hst h0 HG HW HL
        go_wp2_with fail
        refine D.out.mono ?_
        rintro e w2 ⟨rfl, v2, hW2, hk2⟩
        have c2 := (World.cell?_of_block (a := ⟨ob, off + k, none⟩) (hk2.block ob KOB.out)).trans c1
        have HW2 := Lib.hid hW2
        have HK2 : Hid (Kept K w w2) := HK.out.trans hk2
        clear hW2 hk2 D c1
        go_wp2_with fail
        go_roundw
        case measure => go_light; simp [intOf]; omega
        case rel => go_light; exact ⟨k + 1, v2, _, by omega, by go_num, HW2.out, HG0.out, HL0.out, HK2.out⟩
    · obtain rfl : k = n := by omega
      rw [wrGo_done ls k k (by have := HN.out; omega), List.append_nil] at hg0
      have HG0 := Lib.hid hg0
      clear hg0 hl0 hle0 HG
      go_wp2_with fail
      go_ret
      rw [← HG0.out]
      exact ⟨rfl, v1, HW.out, HK.out⟩
end Go.Proofs.YtidclmmnfienlaaGreatDoor.Huff
