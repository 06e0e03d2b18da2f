/-
  Plain: the bits that canon.Write puts for lengths: each length above 0 as 4 bits, a run of at most 64 zeros as 4 zero bits and 6 bits.
  The walk of canon.Write.
-/
import Derived.Test.YtidclmmnfienlaaGreatDoorBitsBase
import Derived.Test.YtidclmmnfienlaaGreatDoorBitsAP
import Derived.Test.YtidclmmnfienlaaGreatDoorCanonBase

namespace Go.Proofs.YtidclmmnfienlaaGreatDoor.Canon
open Go.Proofs.YtidclmmnfienlaaGreatDoor.Huff

/-- How many zeros lie from place i on, at most c. -/
def zrun (ls : List Nat) (i : Nat) : Nat → Nat
  | 0 => 0
  | c + 1 => if ls[i]? = some 0 then zrun ls (i + 1) c + 1 else 0
theorem zrun_le (ls : List Nat) : ∀ (c i : Nat), zrun ls i c ≤ c
  | 0, _ => Nat.le_refl _
  | c + 1, i => by
    unfold zrun
    have := zrun_le ls c (i + 1)
    split <;> omega
theorem zrun_fits (ls : List Nat) : ∀ (c i : Nat), i ≤ ls.length → i + zrun ls i c ≤ ls.length
  | 0, i, h => by simpa [zrun] using h
  | c + 1, i, h => by
    unfold zrun
    split
    · rename_i h0
      have hl := (List.getElem?_eq_some_iff.1 h0).1
      have := zrun_fits ls c (i + 1) hl
      omega
    · exact h
/-- What the writer puts from place i on. -/
def wrGo (ls : List Nat) : Nat → Nat → List Bool
  | 0, _ => []
  | f + 1, i =>
    if i < ls.length then
      if ls.getD i 0 = 0 then msb 0 4 4 ++ (msb (zrun ls i 64 - 1) 6 6 ++ wrGo ls f (i + zrun ls i 64))
      else msb (ls.getD i 0) 4 4 ++ wrGo ls f (i + 1)
    else []
/-- All bits that the writer puts. -/
def wrBits (ls : List Nat) : List Bool := wrGo ls ls.length 0
theorem wrGo_done (ls : List Nat) (f i : Nat) (h : ls.length ≤ i) : wrGo ls f i = [] := by
  cases f with
  | zero => rfl
  | succ f => unfold wrGo; rw [if_neg (by omega)]
theorem zrun_pos {ls : List Nat} {i : Nat} (h : ls[i]? = some 0) (c : Nat) : zrun ls i (c + 1) = zrun ls (i + 1) c + 1 := by
  rw [zrun, if_pos h]
/-- Fuel beyond what is left changes nothing. -/
theorem wrGo_fuel (ls : List Nat) : ∀ (f f' i : Nat), ls.length ≤ i + f → ls.length ≤ i + f' → wrGo ls f i = wrGo ls f' i
  | 0, f', i, h, _ => by rw [wrGo_done ls 0 i h, wrGo_done ls f' i h]
  | f + 1, 0, i, _, h => by rw [wrGo_done ls 0 i h, wrGo_done ls (f + 1) i h]
  | f + 1, f' + 1, i, h, h' => by
    unfold wrGo
    by_cases hi : i < ls.length
    · rw [if_pos hi, if_pos hi]
      by_cases h0 : ls.getD i 0 = 0
      · rw [if_pos h0, if_pos h0]
        have hz : ls[i]? = some 0 := by
          rw [List.getD_eq_getElem?_getD, List.getElem?_eq_getElem hi] at h0
          rw [List.getElem?_eq_getElem hi]
          exact congrArg some h0
        have hz1 : zrun ls i 64 = zrun ls (i + 1) 63 + 1 := zrun_pos hz 63
        rw [wrGo_fuel ls f f' (i + zrun ls i 64) (by omega) (by omega)]
      · rw [if_neg h0, if_neg h0, wrGo_fuel ls f f' (i + 1) (by omega) (by omega)]
    · rw [if_neg hi, if_neg hi]
theorem wrGo_length (ls : List Nat) : ∀ (f i : Nat), (wrGo ls f i).length ≤ 10 * f
  | 0, _ => Nat.le_refl _
  | f + 1, i => by
    unfold wrGo
    split
    · split
      · rw [List.length_append, List.length_append, msb_length, msb_length]
        have := wrGo_length ls f (i + zrun ls i 64)
        omega
      · rw [List.length_append, msb_length]
        have := wrGo_length ls f (i + 1)
        omega
    · simp
end Go.Proofs.YtidclmmnfienlaaGreatDoor.Canon

namespace Go.Proofs.YtidclmmnfienlaaGreatDoor.Huff
open Go.RowKit Go.Proofs.YtidclmmnfienlaaGreatDoor.Mem Go.Proofs.YtidclmmnfienlaaGreatDoor.Canon Go.Proofs.YtidclmmnfienlaaGreatDoor.Own

theorem Wr.step {K : Nat → Prop} {w w' : World} {base g : Nat} {t : TypeId} {rest : List Value} {bs : List Bool} {v : Value} (h : Wr K w base g t rest bs v) (hb : Below w.heap.size w w') : Wr K w' base g t rest bs v :=
  ⟨h.blk.step hb, own_kept h.own fun x hx => hb.block x (World.ownsRow.lt h.own x hx).2, h.ne, Nat.le_trans h.base hb.size, h.kg, h.kv, fun k hk => Nat.lt_of_lt_of_le (h.kK k hk) hb.size⟩
/-- A cell behind a writer's own two is written. -/
theorem Wr.putRest {K : Nat → Prop} {w : World} {base g : Nat} {t : TypeId} {rest : List Value} {bs : List Bool} {v : Value} (h : Wr K w base g t rest bs v) (i : Nat) (u : Value) : Wr K (w.setCell ⟨g, i + 2, none⟩ u) base g t (rest.set i u) bs v := by
  have hz := (bel_set (B := 0) (p := ⟨g, i + 2, none⟩) (u := u) (Nat.zero_le _) (Below.refl 0 w)).size
  refine ⟨?_, own_kept h.own fun x hx => Below.heap_setCell w ⟨g, i + 2, none⟩ u x (fun e => h.ne (by rw [hx, e])), h.ne, Nat.le_trans h.base hz, h.kg, h.kv, fun k hk => Nat.lt_of_lt_of_le (h.kK k hk) hz⟩
  have := h.blk.set (i + 2) u
  rw [set_list] at this
  exact this
theorem zrun_ext {ls : List Nat} {i r : Nat} : ∀ {c : Nat}, r ≤ c → (∀ j, j < r → ls[i + j]? = some 0) → zrun ls i c = r + zrun ls (i + r) (c - r) := by
  induction r generalizing i with
  | zero => intro c _ _; simp
  | succ r ih =>
    intro c hc h
    obtain ⟨c, rfl⟩ : ∃ d, c = d + 1 := ⟨c - 1, by omega⟩
    have h0 : ls[i]? = some 0 := by simpa using h 0 (by omega)
    rw [zrun_pos h0, ih (i := i + 1) (c := c) (by omega) (fun j hj => by have := h (j + 1) (by omega); rwa [show i + (j + 1) = i + 1 + j by omega] at this)]
    rw [show i + 1 + r = i + (r + 1) by omega, show c + 1 - (r + 1) = c - r by omega]
    omega
theorem zrun_stop {ls : List Nat} {i r : Nat} (h : r ≤ 64) (hz : ∀ j, j < r → ls[i + j]? = some 0) (he : r = 64 ∨ ls[i + r]? ≠ some 0) : zrun ls i 64 = r := by
  rw [zrun_ext h hz]
  rcases he with rfl | he
  · simp [zrun]
  · by_cases h2 : r = 64
    · subst h2; simp [zrun]
    · obtain ⟨c, hc⟩ : ∃ c, 64 - r = c + 1 := ⟨63 - r, by omega⟩
      rw [hc, zrun, if_neg he]; omega
set_option maxHeartbeats 1000000 in
set_option maxRecDepth 100000 in
theorem cwrite_any (K : Nat → Prop) (w : World) (g base : Nat) (t : TypeId) (rest : List Value) (v : Value) (bs : List Bool) (A : Option Addr) (n c : Nat) (ls : List Nat) (hn : ls.length = n) (hN : n ≤ 9223372036854775807) (hok : okB ls = true) (hKA : 0 < n → ∀ p, A = some p → K p.block) (ha : Row w w.heap.size A n 1 (numF .u8 ls)) (hle : bs.length + 10 * n ≤ 5000000) (hW : Wr K w base g t rest bs v) :
    Calls Tryz.prog 136 #[.pointer (some ⟨g, 0, none⟩), .slice A n c] w fun e w' => e = .returned (.int .i64 0) ∧ ∃ v', Wr K w' base g t rest (bs ++ wrBits ls) v' ∧ Kept K w w' := by
  have hE : checkE ls = 0 := by unfold checkE; rw [if_pos hok]
  have C0 := check_any w A n c ls hn hN ha
  rw [hE] at C0
  have C0 := Lib.hid C0
  obtain ⟨_, hsm, _⟩ := ok_parts hok
  have HN := Lib.hid hn
  have HSM := Lib.hid hsm
  have HLE := Lib.hid hle
  have HW := Lib.hid hW
  have HA := Lib.hid ha
  have HKA := Lib.hid hKA
  clear hn hok hE hsm hle hW ha hKA
  go_enter Tryz.func136, Tryz.ntmps136
  go_wp2_with fail
  refine C0.out.mono ?_
  rintro e w1 ⟨rfl, hb1⟩
  have HW1 := Lib.hid (HW.out.step hb1)
  have HK1 : Hid (Kept K w w1) := Kept.of_below hb1 fun z hz => HW.out.kK z hz
  clear hb1 HW
  go_wp2_with fail
  go_loopw [6] (fun i wr => ∃ (k : Nat) (v : Value) (b : List Bool), k ≤ n ∧ i = .int .i64 k ∧ Hid (Wr K wr base g t rest b v) ∧ Hid (b ++ wrGo ls n k = bs ++ wrBits ls) ∧ Hid (b.length ≤ bs.length + 10 * k) ∧ Hid (Kept K w wr)) (fun i _ => n - (intOf i).toNat)
  case atStart => exact ⟨0, v, bs, by omega, rfl, HW1.out, by show _ = _; unfold wrBits; rw [HN.out], by show _ ≤ _; omega, HK1.out⟩
  case round =>
    clear HW1 HK1
    obtain ⟨k, v1, b1, hk, rfl, HW, HG, HL, HK⟩ := hrel
    have hg0 := HG.out
    have hl0 := HL.out
    have hle0 := HLE.out
    by_cases hlt : k < n
    · obtain ⟨ob, off, x, rfl, hbb, hx, c0⟩ := num_cell HA.out HN.out hlt
      have KOB := Lib.hid (HKA.out (by omega) _ rfl)
      simp only at KOB
      have c1 := (World.cell?_of_block (a := ⟨ob, off + k, none⟩) (HK.out.block ob KOB.out)).trans c0
      have hx15 := HSM.out x (List.mem_of_getElem? hx)
      have y0 : (0 : Int) ≤ (k : Int) := by omega
      have y1 : (k : Int) < (n : Int) := by omega
      have hgx : ls.getD k 0 = x := by rw [List.getD_eq_getElem?_getD, hx]; rfl
      have hst : wrGo ls n k = wrGo ls (n - k - 1 + 1) k := wrGo_fuel ls _ _ _ (by have := HN.out; omega) (by have := HN.out; omega)
      rw [hst] at hg0
      unfold wrGo at hg0
      rw [HN.out, if_pos hlt, hgx] at hg0
      by_cases h0 : x = 0
      · subst h0
        rw [if_pos rfl] at hg0
        have hr0 := zrun_fits ls 64 k (by have := HN.out; omega)
        have hx0 : ls[k]? = some 0 := hx
        have hrp : 1 ≤ zrun ls k 64 := by have := zrun_pos hx0 63; show 1 ≤ zrun ls k (63 + 1); omega
        have hr64 := zrun_le ls 64 k
        rw [HN.out] at hr0
        rw [wrGo_fuel ls (n - k - 1) n (k + zrun ls k 64) (by have := HN.out; omega) (by have := HN.out; omega)] at hg0
        have HG0 := Lib.hid hg0
        have HX0 := Lib.hid hx0
        have HR := Lib.hid (show k + zrun ls k 64 ≤ n from hr0)
        have k1 : decide ((0 : Int) < 0) = false := by decide
        clear hg0 hx c0 hgx hst hr0 hx0 hrp hr64 HG hle0 hl0
        go_wp2_with fail
        go_loopw [7] (fun rv wx => ∃ r : Nat, 1 ≤ r ∧ r ≤ 64 ∧ k + r ≤ n ∧ rv = .int .i64 r ∧ Hid (∀ j, j < r → ls[k + j]? = some 0) ∧ wx = wr) (fun rv _ => 64 - (intOf rv).toNat)
        case atStart => exact ⟨1, by omega, by omega, by omega, rfl, (fun j hj => by obtain rfl : j = 0 := (by omega); exact HX0.out), rfl⟩
        case round =>
          obtain ⟨r, hr1, hr2, hr3, rfl, hz, rfl⟩ := hrel
          have done : (r = 64 ∨ ls[k + r]? ≠ some 0) → Hid (zrun ls k 64 = r) := fun h => zrun_stop hr2 hz.out h
          have x1 : IntKind.i64.wrap ((k : Int) + (r : Int)) = (k : Int) + (r : Int) := by rw [IntKind.wrap_i64]; omega
          by_cases hA : r < 64
          · have a1 : decide ((r : Int) < 64) = true := by simp; omega
            have a2 : decide (r < 64) = true := by simpa using hA
            by_cases hB : k + r < n
            · obtain ⟨_, _, y, e9, _, hy, d0⟩ := num_cell HA.out HN.out hB
              injection e9 with e9
              injection e9 with e8 e7
              subst e8 e7
              have d1 := (World.cell?_of_block (a := ⟨ob, off + (k + r), none⟩) (HK.out.block ob KOB.out)).trans d0
              have bf1 : decide ((k : Int) + (r : Int) < (n : Int)) = true := by simp; omega
              have bf2 : decide (k + r < n) = true := by simpa using hB
              have bf3 : (0 : Int) ≤ (k : Int) + (r : Int) := by omega
              have bf4 : (k : Int) + (r : Int) < (n : Int) := by omega
              have bf5 : ((k : Int) + (r : Int)).toNat = k + r := by omega
              by_cases hC : y = 0
              · subst hC
                have hz2 : Hid (∀ j, j < r + 1 → ls[k + j]? = some 0) := by
                  intro j hj
                  by_cases e : j = r
                  · subst e; exact hy
                  · exact hz.out j (by omega)
                have hA2 : r + 1 ≤ 64 := hA
                have hB2 : k + (r + 1) ≤ n := by omega
                clear hy d0 done
                go_wp2_with fail
                go_roundw
                case measure => go_light; simp [intOf]; omega
                case rel => go_light; refine ⟨r + 1, Nat.le_add_left 1 r, hA2, hB2, by go_num, hz2, ?_⟩; first | rfl | trivial
              · have c5 : ((y : Int) == 0) = false := by simp; omega
                have HZ := done (.inr (by rw [hy]; simpa using hC))
                clear hy d0 hC done
                obtain ⟨q, hq⟩ : ∃ q, q = r - 1 := ⟨_, rfl⟩
                have x2 : IntKind.i64.wrap ((r : Int) - 1) = (q : Int) := by rw [IntKind.wrap_i64]; omega
                have x3 : IntKind.u64.wrap (q : Int) = (q : Int) := by rw [IntKind.wrap_u64]; omega
                have hgz := HG0.out
                rw [HZ.out, ← hq, ← List.append_assoc, ← List.append_assoc] at hgz
                have HGZ := Lib.hid hgz
                have e1 := HL.out
                have e2 := HLE.out
                have D1 := Lib.hid (put_any K wr g base t rest v1 b1 0 4 (by omega) (by omega) (by omega) HW.out)
                have D2 := Lib.hid (fun w2 v2 h => put_any K w2 g base t rest v2 (b1 ++ msb 0 4 4) q 6 (show q < 64 by omega) (by omega) (by rw [List.length_append, msb_length]; omega) h)
                have HL0 : Hid ((b1 ++ msb 0 4 4 ++ msb q 6 6).length ≤ bs.length + 10 * (k + r)) := by show _ ≤ _; rw [List.length_append, List.length_append, msb_length, msb_length]; omega
                clear hq hgz e1 e2 HG0
                go_wp2_with fail
                refine D1.out.mono ?_
                rintro e w2 ⟨rfl, v2, hW2, hk2⟩
                have HW2 := Lib.hid hW2
                have HK2 : Hid (Kept K w w2) := HK.out.trans hk2
                clear hW2 hk2 D1
                go_wp2_with fail
                refine (D2.out w2 v2 HW2.out).mono ?_
                rintro e w3 ⟨rfl, v3, hW3, hk3⟩
                have HW3 := Lib.hid hW3
                have HK3 : Hid (Kept K w w3) := HK2.out.trans hk3
                clear hW3 hk3 D2
                go_wp2_with fail
                go_roundw
                case measure => go_light; simp [intOf]; omega
                case rel => go_light; exact ⟨k + r, v3, _, by omega, by go_num, HW3.out, HGZ.out, HL0.out, HK3.out⟩
            · have bf1 : decide ((k : Int) + (r : Int) < (n : Int)) = false := by simp; omega
              have bf2 : decide (k + r < n) = false := by simpa using hB
              have HZ := done (.inr (by rw [List.getElem?_eq_none (by have := HN.out; omega)]; simp))
              clear done
              obtain ⟨q, hq⟩ : ∃ q, q = r - 1 := ⟨_, rfl⟩
              have x2 : IntKind.i64.wrap ((r : Int) - 1) = (q : Int) := by rw [IntKind.wrap_i64]; omega
              have x3 : IntKind.u64.wrap (q : Int) = (q : Int) := by rw [IntKind.wrap_u64]; omega
              have hgz := HG0.out
              rw [HZ.out, ← hq, ← List.append_assoc, ← List.append_assoc] at hgz
              have HGZ := Lib.hid hgz
              have e1 := HL.out
              have e2 := HLE.out
              have D1 := Lib.hid (put_any K wr g base t rest v1 b1 0 4 (by omega) (by omega) (by omega) HW.out)
              have D2 := Lib.hid (fun w2 v2 h => put_any K w2 g base t rest v2 (b1 ++ msb 0 4 4) q 6 (show q < 64 by omega) (by omega) (by rw [List.length_append, msb_length]; omega) h)
              have HL0 : Hid ((b1 ++ msb 0 4 4 ++ msb q 6 6).length ≤ bs.length + 10 * (k + r)) := by show _ ≤ _; rw [List.length_append, List.length_append, msb_length, msb_length]; omega
              clear hq hgz e1 e2 HG0
              go_wp2_with fail
              refine D1.out.mono ?_
              rintro e w2 ⟨rfl, v2, hW2, hk2⟩
              have HW2 := Lib.hid hW2
              have HK2 : Hid (Kept K w w2) := HK.out.trans hk2
              clear hW2 hk2 D1
              go_wp2_with fail
              refine (D2.out w2 v2 HW2.out).mono ?_
              rintro e w3 ⟨rfl, v3, hW3, hk3⟩
              have HW3 := Lib.hid hW3
              have HK3 : Hid (Kept K w w3) := HK2.out.trans hk3
              clear hW3 hk3 D2
              go_wp2_with fail
              go_roundw
              case measure => go_light; simp [intOf]; omega
              case rel => go_light; exact ⟨k + r, v3, _, by omega, by go_num, HW3.out, HGZ.out, HL0.out, HK3.out⟩
          · have a1 : decide ((r : Int) < 64) = false := by simp; omega
            have a2 : decide (r < 64) = false := by simpa using hA
            have HZ := done (.inl (by omega))
            clear done
            obtain ⟨q, hq⟩ : ∃ q, q = r - 1 := ⟨_, rfl⟩
            have x2 : IntKind.i64.wrap ((r : Int) - 1) = (q : Int) := by rw [IntKind.wrap_i64]; omega
            have x3 : IntKind.u64.wrap (q : Int) = (q : Int) := by rw [IntKind.wrap_u64]; omega
            have hgz := HG0.out
            rw [HZ.out, ← hq, ← List.append_assoc, ← List.append_assoc] at hgz
            have HGZ := Lib.hid hgz
            have e1 := HL.out
            have e2 := HLE.out
            have D1 := Lib.hid (put_any K wr g base t rest v1 b1 0 4 (by omega) (by omega) (by omega) HW.out)
            have D2 := Lib.hid (fun w2 v2 h => put_any K w2 g base t rest v2 (b1 ++ msb 0 4 4) q 6 (show q < 64 by omega) (by omega) (by rw [List.length_append, msb_length]; omega) h)
            have HL0 : Hid ((b1 ++ msb 0 4 4 ++ msb q 6 6).length ≤ bs.length + 10 * (k + r)) := by show _ ≤ _; rw [List.length_append, List.length_append, msb_length, msb_length]; omega
            clear hq hgz e1 e2 HG0
            go_wp2_with fail
            refine D1.out.mono ?_
            rintro e w2 ⟨rfl, v2, hW2, hk2⟩
            have HW2 := Lib.hid hW2
            have HK2 : Hid (Kept K w w2) := HK.out.trans hk2
            clear hW2 hk2 D1
            go_wp2_with fail
            refine (D2.out w2 v2 HW2.out).mono ?_
            rintro e w3 ⟨rfl, v3, hW3, hk3⟩
            have HW3 := Lib.hid hW3
            have HK3 : Hid (Kept K w w3) := HK2.out.trans hk3
            clear hW3 hk3 D2
            go_wp2_with fail
            go_roundw
            case measure => go_light; simp [intOf]; omega
            case rel => go_light; exact ⟨k + r, v3, _, by omega, by go_num, HW3.out, HGZ.out, HL0.out, HK3.out⟩
      · have hxp : 0 < x := by omega
        rw [if_neg h0, wrGo_fuel ls (n - k - 1) n (k + 1) (by have := HN.out; omega) (by have := HN.out; omega), ← List.append_assoc] at hg0
        have D := Lib.hid (put_any K wr g base t rest v1 b1 x 4 (by omega) (by omega) (by omega) HW.out)
        have k1 : decide (0 < x) = true := by simpa using hxp
        have k2 : decide ((0 : Int) < (x : Int)) = true := by simpa using hxp
        have s1 : IntKind.u64.wrap (x : Int) = (x : Int) := by rw [IntKind.wrap_u64]; omega
        have HG0 := Lib.hid hg0
        have HL0 : Hid ((b1 ++ msb x 4 4).length ≤ bs.length + 10 * (k + 1)) := by show _ ≤ _; rw [List.length_append, msb_length]; omega
        clear hg0 hl0 hle0 hx c0 hgx hst h0 HG HW HL
        go_wp2_with fail
        refine D.out.mono ?_
        rintro e w2 ⟨rfl, v2, hW2, hk2⟩
        have HW2 := Lib.hid hW2
        have HK2 : Hid (Kept K w w2) := HK.out.trans hk2
        clear hW2 hk2 D
        go_wp2_with fail
        go_roundw
        case measure => go_light; simp [intOf]; omega
        case rel => go_light; exact ⟨k + 1, v2, _, by omega, by go_num, HW2.out, HG0.out, HL0.out, HK2.out⟩
    · obtain rfl : k = n := by omega
      rw [wrGo_done ls k k (by have := HN.out; omega), List.append_nil] at hg0
      have HG0 := Lib.hid hg0
      clear hg0 hl0 hle0 HG
      go_wp2_with fail
      go_ret
      rw [← HG0.out]
      exact ⟨rfl, v1, HW.out, HK.out⟩
end Go.Proofs.YtidclmmnfienlaaGreatDoor.Huff
