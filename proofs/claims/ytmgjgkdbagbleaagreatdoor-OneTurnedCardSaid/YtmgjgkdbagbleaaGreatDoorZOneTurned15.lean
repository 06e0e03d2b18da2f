/-
  The walks of nums.scan and nums.limited. The walks of nums' cursor: New, Err, At, Fail, read, Int, Take, Byte. The walks of nums' cursor: read, Int, Take, Byte. The reference's cursor: firkinref03. The reference's cursor: bytes and numbers that are read.
-/
import Derived.Test.YtmgjgkdbagbleaaGreatDoorZOneTurned5
import Derived.Test.YtmgjgkdbagbleaaGreatDoorZOneTurned3
import Derived.Test.YtmgjgkdbagbleaaGreatDoorZOneTurned6
import Derived.Laws.BitsAllLaws
import Derived.Laws.Bits64b
import Derived.Laws.EntriesVeiled
import Derived.Deep.AppendLies
namespace Go.Proofs.YtmgjgkdbagbleaaGreatDoor.Nums
open Go.RowKit Go.Proofs.YtmgjgkdbagbleaaGreatDoor.Mem Go.Proofs.YtmgjgkdbagbleaaGreatDoor.Own Go.Proofs.YtmgjgkdbagbleaaGreatDoor.Canon
def scanP : List Nat → Nat → Nat → Nat × Nat × Int
  | [], _, _ => (0, 0, 1)
  | c :: t, i, x => if (i = 9 ∧ c ≠ 1) ∨ (0 < i ∧ c = 0) then (0, 0, 2) else if c < 128 then (x + c % 128 * 2 ^ (7 * i), i + 1, 0) else scanP t (i + 1) (x + c % 128 * 2 ^ (7 * i))
theorem scanP_spec : ∀ (l : List Nat) (i x : Nat), (∀ c ∈ l, c ≤ 255) → i ≤ 9 → x < 2 ^ (7 * i) → (scanP l i x).1 < 18446744073709551616 ∧ (scanP l i x).2.1 ≤ l.length + i ∧ ((scanP l i x).2.2 = 0 → i < (scanP l i x).2.1) ∧ ((scanP l i x).2.2 ≠ 0 → (scanP l i x).1 = 0 ∧ (scanP l i x).2.1 = 0) ∧ 0 ≤ (scanP l i x).2.2 ∧ (scanP l i x).2.2 ≤ 2
  | [], i, x, _, _, _ => by simp [scanP]
  | c :: t, i, x, h8, hi, hx => by
    have hc := h8 c (by simp)
    rw [scanP]
    have hp : 2 ^ (7 * (i + 1)) = 128 * 2 ^ (7 * i) := by rw [show 7 * (i + 1) = 7 * i + 7 by omega, Nat.pow_add]; omega
    by_cases h1 : (i = 9 ∧ c ≠ 1) ∨ (0 < i ∧ c = 0)
    · rw [if_pos h1]; simp
    · rw [if_neg h1]
      have hb : x + c % 128 * 2 ^ (7 * i) < 2 ^ (7 * (i + 1)) := by
        rw [hp]
        have : c % 128 * 2 ^ (7 * i) ≤ 127 * 2 ^ (7 * i) := Nat.mul_le_mul_right _ (by omega)
        omega
      by_cases h2 : c < 128
      · rw [if_pos h2]
        refine ⟨?_, by simp; omega, fun _ => by simp, fun h => absurd rfl h, by simp, by simp⟩
        by_cases h9 : i = 9
        · subst h9
          have : c = 1 := by omega
          subst this
          have : x < 2 ^ 63 := hx
          simp
          omega
        · have h64 : 2 ^ (7 * (i + 1)) ≤ 2 ^ 63 := Nat.pow_le_pow_right (by omega) (by omega)
          show x + c % 128 * 2 ^ (7 * i) < _
          omega
      · rw [if_neg h2]
        have hi9 : i ≠ 9 := by omega
        have ih := scanP_spec t (i + 1) _ (fun d hd => h8 d (by simp [hd])) (by omega) hb
        refine ⟨ih.1, by have := ih.2.1; simp; omega, fun h => by have := ih.2.2.1 h; omega, ih.2.2.2⟩
theorem or_add64 {x t i : Nat} (hx : x < 2 ^ i) (h : x + t * 2 ^ i < 18446744073709551616) : bits .or .u64 (x : Int) ((t * 2 ^ i : Nat) : Int) = ((x + t * 2 ^ i : Nat) : Int) := by
  rw [bits_or_u64_nat x _ (by omega) (by omega), Nat.mul_comm t, Nat.or_comm, ← Nat.two_pow_add_eq_or_of_lt hx]
  congr 1
  omega
set_option maxRecDepth 100000 in
theorem scan_any (w : World) (A : Option Addr) (n c : Nat) (ls : List Nat) (hn : ls.length = n) (hN : n ≤ 100000) (h8 : ∀ x ∈ ls, x ≤ 255) (ha : Row w w.heap.size A n 1 (numF .u8 ls)) :
    Calls Tryz.prog 242 #[.slice A n c] w fun e w' => e = .returned (.tuple #[.int .u64 (scanP ls 0 0).1, .int .i64 (scanP ls 0 0).2.1, .int .i64 (scanP ls 0 0).2.2]) ∧ w' = w := by
  have HA := Lib.hid ha
  have HN := Lib.hid hn
  have H8 := Lib.hid h8
  clear ha hn h8
  obtain ⟨R, hR⟩ : ∃ R, R = scanP ls 0 0 := ⟨_, rfl⟩
  rw [← hR]
  have HR := Lib.hid hR
  clear hR
  go_enter Tryz.func242, Tryz.ntmps242
  go_wp2_with fail
  go_loopw [2, 9] (fun xv i wx => ∃ k x : Nat, k ≤ n ∧ k ≤ 9 ∧ xv = .int .u64 x ∧ i = .int .i64 k ∧ Hid (x < 2 ^ (7 * k)) ∧ Hid (scanP (ls.drop k) k x = R) ∧ wx = w) (fun _ i _ => n - (intOf i).toNat)
  case atStart => exact ⟨0, 0, by omega, by omega, rfl, rfl, by show _ < _; simp, HR.out.symm, rfl⟩
  case round =>
    obtain ⟨k, x, hk, hk9, rfl, rfl, hx, hS, rfl⟩ := hrel
    by_cases hlt : k < n
    · obtain ⟨b, off, y, rfl, hb, hy, hc⟩ := num_cell HA.out HN.out hlt
      have hkl : k < ls.length := by rw [HN.out]; exact hlt
      have hy8 : y ≤ 255 := H8.out y (List.mem_of_getElem? hy)
      have hs := hS.out
      rw [List.drop_eq_getElem_cons hkl, scanP] at hs
      rw [List.getElem?_eq_getElem hkl] at hy
      injection hy with hy
      rw [hy] at hs
      have y0 : (0 : Int) ≤ (k : Int) := by omega
      have y1 : (k : Int) < (n : Int) := by omega
      by_cases h9 : k = 9 ∧ y ≠ 1
      · rw [if_pos (.inl h9)] at hs
        have g1 : ((k : Int) == 9) = true := by simp; omega
        have g2 : ((y : Int) != 1) = true := by simp; omega
        have HS := Lib.hid hs
        clear hs hS hx h9 hy hkl
        go_wp2_with fail
        go_ret3
        exact ⟨by rw [← HS.out]; rfl, rfl⟩
      · by_cases h0 : 0 < k ∧ y = 0
        · rw [if_pos (.inr h0)] at hs
          have g1 : ((k : Int) == 9) = false := by rw [Bool.eq_false_iff]; intro h; simp at h; omega
          have g3 : decide (0 < k) = true := by simp; omega
          have g4 : ((y : Int) == 0) = true := by simp; omega
          have HS := Lib.hid hs
          clear hs hS hx h9 h0 hy hkl
          go_wp2_with fail
          go_ret3
          exact ⟨by rw [← HS.out]; rfl, rfl⟩
        · rw [if_neg (by omega)] at hs
          have hxx := hx.out
          obtain ⟨E, hE⟩ : ∃ E, E = 7 * k := ⟨_, rfl⟩
          rw [← hE] at hs hxx
          obtain ⟨c7, hc7⟩ : ∃ c7, c7 = y % 128 := ⟨_, rfl⟩
          rw [← hc7] at hs
          obtain ⟨x2, hx2⟩ : ∃ x2, x2 = x + c7 * 2 ^ E := ⟨_, rfl⟩
          have hpow : 2 ^ E ≤ 2 ^ 63 := Nat.pow_le_pow_right (by omega) (by omega)
          have hmul : c7 * 2 ^ E ≤ 127 * 2 ^ E := Nat.mul_le_mul_right _ (by omega)
          have hx64 : x + c7 * 2 ^ E < 18446744073709551616 := by
            by_cases h99 : k = 9
            · have : y = 1 := by omega
              have e7 : c7 = 1 := by omega
              have e63 : E = 63 := by omega
              subst e63
              rw [e7]
              have : x < 2 ^ 63 := hxx
              omega
            · have : 2 ^ E ≤ 2 ^ 56 := Nat.pow_le_pow_right (by omega) (by omega)
              omega
          obtain ⟨t2, ht2⟩ : ∃ t2, t2 = c7 * 2 ^ E := ⟨_, rfl⟩
          have s1 : IntKind.i64.wrap (7 * (k : Int)) = (E : Int) := by rw [IntWalk.i64_in _ (by omega)]; omega
          have e1 : bits .andNot .u8 (y : Int) 128 = (c7 : Int) := by
            have h := u8_andNot_nat y 128 (by omega) (by omega)
            rw [show (255 - 128) = 2 ^ 7 - 1 from rfl, Nat.and_two_pow_sub_one_eq_mod] at h
            rw [hc7]
            exact h
          have s2 : IntKind.u64.wrap (c7 : Int) = (c7 : Int) := by rw [IntKind.wrap_u64]; omega
          have s3 : IntKind.u64.wrap ((c7 : Int) * 2 ^ E) = (t2 : Int) := by
            rw [IntKind.wrap_u64, ht2]
            have : ((c7 : Int) * 2 ^ E) = ((c7 * 2 ^ E : Nat) : Int) := by push_cast; rfl
            rw [this]
            omega
          have e2 : bits .or .u64 (x : Int) (t2 : Int) = (x2 : Int) := by rw [ht2, or_add64 hxx hx64, hx2]
          rw [← hx2] at hs
          have z0 : (0 : Int) ≤ (E : Int) := by omega
          have z1 : (E : Int) ≤ 64 := by omega
          have hpp : x2 < 2 ^ (7 * (k + 1)) := by
            rw [hx2, show 7 * (k + 1) = E + 7 by omega, Nat.pow_add]
            omega
          have HP := Lib.hid hpp
          have HS := Lib.hid hs
          have H9 : Hid (k = 9 → y = 1) := fun h => by omega
          have hgg : ((k : Int) == 9 && (y : Int) != 1) = false ∨ True := .inr trivial
          clear hs hS hx hxx hy hkl hx2 ht2 hc7 hpow hmul hx64 hE hpp hgg
          have M := HS
          by_cases hy128 : y < 128
          · have g5 : decide ((y : Int) < 128) = true := by simp; omega
            have g6 : decide (y < 128) = true := by simp; omega
            have hs := HS.out
            rw [if_pos hy128] at hs
            have HS2 := Lib.hid hs
            have s5 : IntKind.i64.wrap ((k : Int) + 1) = (k : Int) + 1 := by rw [IntWalk.i64_in _ (by omega)]
            clear hs HS M hy128
            by_cases h99 : k = 9
            · have g1 : ((k : Int) == 9) = true := by simp; omega
              have g2 : ((y : Int) != 1) = false := by have := H9.out h99; subst this; rfl
              have g3 : decide (0 < k) = true := by simp; omega
              have g4 : ((y : Int) == 0) = false := by have := H9.out h99; subst this; rfl
              clear h99 h9 h0
              go_wp2_with fail
              go_ret3
              exact ⟨by rw [← HS2.out]; rfl, rfl⟩
            · have g1 : ((k : Int) == 9) = false := by rw [Bool.eq_false_iff]; intro h; simp at h; omega
              by_cases h00 : k = 0
              · have g3 : decide (0 < k) = false := by simp; omega
                clear h99 h00 h9 h0
                go_wp2_with fail
                go_ret3
                exact ⟨by rw [← HS2.out]; rfl, rfl⟩
              · have g3 : decide (0 < k) = true := by simp; omega
                have g4 : ((y : Int) == 0) = false := by rw [Bool.eq_false_iff]; intro h; simp at h; omega
                clear h99 h00 h9 h0
                go_wp2_with fail
                go_ret3
                exact ⟨by rw [← HS2.out]; rfl, rfl⟩
          · have g5 : decide ((y : Int) < 128) = false := by simp; omega
            have g6 : decide (y < 128) = false := by simp; omega
            have hs := HS.out
            rw [if_neg hy128] at hs
            have HS2 := Lib.hid hs
            have hk9' : k ≠ 9 := fun h => by have := H9.out h; omega
            clear hs HS M hy128
            by_cases h99 : k = 9
            · have g1 : ((k : Int) == 9) = true := by simp; omega
              have g2 : ((y : Int) != 1) = false := by have := H9.out h99; subst this; rfl
              have g3 : decide (0 < k) = true := by simp; omega
              have g4 : ((y : Int) == 0) = false := by have := H9.out h99; subst this; rfl
              clear h99 h9 h0
              go_wp2_with fail
              go_roundw
              case measure => go_light; simp [intOf]; omega
              case rel => go_light; exact ⟨k + 1, x2, by omega, by omega, by first | rfl | trivial, by go_num, HP.out, HS2.out, by first | rfl | trivial⟩
            · have g1 : ((k : Int) == 9) = false := by rw [Bool.eq_false_iff]; intro h; simp at h; omega
              by_cases h00 : k = 0
              · have g3 : decide (0 < k) = false := by simp; omega
                clear h99 h00 h9 h0
                go_wp2_with fail
                go_roundw
                case measure => go_light; simp [intOf]; omega
                case rel => go_light; exact ⟨k + 1, x2, by omega, by omega, by first | rfl | trivial, by go_num, HP.out, HS2.out, by first | rfl | trivial⟩
              · have g3 : decide (0 < k) = true := by simp; omega
                have g4 : ((y : Int) == 0) = false := by rw [Bool.eq_false_iff]; intro h; simp at h; omega
                clear h99 h00 h9 h0
                go_wp2_with fail
                go_roundw
                case measure => go_light; simp [intOf]; omega
                case rel => go_light; exact ⟨k + 1, x2, by omega, by omega, by first | rfl | trivial, by go_num, HP.out, HS2.out, by first | rfl | trivial⟩
    · obtain rfl : k = n := by omega
      have hs := hS.out
      rw [List.drop_of_length_le (by rw [HN.out]; exact Nat.le_refl _), scanP] at hs
      have HS := Lib.hid hs
      clear hs hS hx
      go_wp2_with fail
      go_ret3
      exact ⟨by rw [← HS.out]; rfl, rfl⟩
end Go.Proofs.YtmgjgkdbagbleaaGreatDoor.Nums
namespace Go.Proofs.YtmgjgkdbagbleaaGreatDoor.Nums
open Go.RowKit Go.Proofs.YtmgjgkdbagbleaaGreatDoor.Mem Go.Proofs.YtmgjgkdbagbleaaGreatDoor.Own Go.Proofs.YtmgjgkdbagbleaaGreatDoor.Canon
theorem numL_get {k : IntKind} {ls : List Nat} {i : Nat} (h : i < ls.length) : (numL k ls)[i * 1 + 0]? = some (numF k ls i 0) := by
  simp [numL, numF, List.getD_eq_getElem?_getD, h]
theorem own_row {w : World} {base c : Nat} {A : Option Addr} {ls : List Nat} (h : w.ownsRow base 5 1 (.slice A ls.length c) ls.length (numL .u8 ls)) : Row w w.heap.size A ls.length 1 (numF .u8 ls) :=
  Row.of_own h rfl fun i j hi hj => by
    obtain rfl : j = 0 := by omega
    exact numL_get hi
theorem own_none {w : World} {base n c : Nat} {A : Option Addr} {xs : List Value} (h : w.ownsRow base 5 1 (.slice A n c) n xs) : A = none → n = 0 ∧ c = 0 := (own_wf h).1
theorem own_head {w : World} {base n c : Nat} {A : Option Addr} {xs : List Value} (h : w.ownsRow base 5 1 (.slice A n c) n xs) : ∀ a, A = some a → a.add 0 = a := by
  intro a ha
  subst ha
  rcases h.2 with ⟨hv, _⟩ | ⟨g, cap, cur, hv, _⟩
  · cases hv
  · injection hv with e1 e2 e3
    injection e1 with e1
    subst e1
    exact add_none' g 0 0
def limP (most : Nat) (ls : List Nat) : Nat × Nat × Int :=
  if (scanP ls 0 0).2.2 ≠ 0 then (0, 0, (scanP ls 0 0).2.2) else if most < (scanP ls 0 0).1 then (0, 0, 6) else scanP ls 0 0
theorem limP_spec (most : Nat) (ls : List Nat) (h8 : ∀ c ∈ ls, c ≤ 255) : (limP most ls).1 ≤ most ∧ (limP most ls).2.1 ≤ ls.length ∧ ((limP most ls).2.2 = 0 → 1 ≤ (limP most ls).2.1) ∧ ((limP most ls).2.2 ≠ 0 → (limP most ls).1 = 0 ∧ (limP most ls).2.1 = 0) ∧ 0 ≤ (limP most ls).2.2 ∧ (limP most ls).2.2 ≤ 6 := by
  have h := scanP_spec ls 0 0 h8 (by omega) (by simp)
  unfold limP
  split
  · rename_i he
    exact ⟨by simp, by simp, fun h0 => absurd h0 he, fun _ => ⟨rfl, rfl⟩, h.2.2.2.2.1, by have := h.2.2.2.2.2; show (scanP ls 0 0).2.2 ≤ 6; omega⟩
  · rename_i he
    split
    · exact ⟨by simp, by simp, fun h0 => absurd h0 (by decide), fun _ => ⟨rfl, rfl⟩, by simp, by simp⟩
    · exact ⟨by omega, by have := h.2.1; omega, fun h0 => by have := h.2.2.1 h0; omega, h.2.2.2.1, h.2.2.2.2.1, by have := h.2.2.2.2.2; omega⟩
set_option maxRecDepth 100000 in
theorem limited_any (w : World) (A : Option Addr) (n c : Nat) (ls : List Nat) (most : Nat) (hmost : most ≤ 1000000000) (hn : ls.length = n) (hN : n ≤ 100000) (h8 : ∀ x ∈ ls, x ≤ 255) (ha : Row w w.heap.size A n 1 (numF .u8 ls)) :
    Calls Tryz.prog 191 #[.slice A n c, .int .i64 most] w fun e w' => e = .returned (.tuple #[.int .i64 (limP most ls).1, .int .i64 (limP most ls).2.1, .int .i64 (limP most ls).2.2]) ∧ w' = w := by
  have D := scan_any w A n c ls hn hN h8 ha
  have hs := scanP_spec ls 0 0 h8 (by omega) (by simp)
  unfold limP
  clear hn h8 ha
  generalize scanP ls 0 0 = R at *
  obtain ⟨x, k, er⟩ := R
  simp only at hs D ⊢
  have hx := hs.1
  have D := Lib.hid D
  have s1 : IntKind.u64.wrap (most : Int) = (most : Int) := by rw [IntKind.wrap_u64]; omega
  by_cases he : er = 0
  · subst he
    rw [if_neg (by simp)]
    by_cases hm : most < x
    · rw [if_pos hm]
      have g1 : decide ((most : Int) < (x : Int)) = true := by simp; omega
      have g2 : decide (most < x) = true := by simp; omega
      clear hs hm
      go_enter Tryz.func191, Tryz.ntmps191
      go_wp2_with fail
      refine D.out.mono ?_
      rintro e w1 ⟨rfl, rfl⟩
      go_wp2_with fail
      go_ret3
      exact ⟨rfl, rfl⟩
    · rw [if_neg hm]
      have g1 : decide ((most : Int) < (x : Int)) = false := by simp; omega
      have g2 : decide (most < x) = false := by simp; omega
      have s2 : IntKind.i64.wrap (x : Int) = (x : Int) := by rw [IntWalk.i64_in _ (by omega)]
      clear hs hm
      go_enter Tryz.func191, Tryz.ntmps191
      go_wp2_with fail
      refine D.out.mono ?_
      rintro e w1 ⟨rfl, rfl⟩
      go_wp2_with fail
      go_ret3
      exact ⟨rfl, rfl⟩
  · rw [if_pos he]
    have g1 : (er != 0) = true := by simpa using he
    clear hs he
    go_enter Tryz.func191, Tryz.ntmps191
    go_wp2_with fail
    refine D.out.mono ?_
    rintro e w1 ⟨rfl, rfl⟩
    go_wp2_with fail
    go_ret3
    exact ⟨rfl, rfl⟩
structure Cur (w : World) (g base : Nat) (bs : List Nat) (A : Option Addr) (c at_ : Nat) (er : Int) : Prop where
  blk : Blk w g 161 #[.slice A bs.length c, .int .i64 at_, .int .i64 er]
  own : w.ownsRow base 5 1 (.slice A bs.length c) bs.length (numL .u8 bs)
  le : at_ ≤ bs.length
  lo : base ≤ g
section
variable {w w' : World} {g base : Nat} {bs : List Nat} {A : Option Addr} {c at_ : Nat} {er : Int}
theorem Cur.drew (h : Cur w g base bs A c at_ er) : Cur w.drew g base bs A c at_ er := ⟨h.blk, h.own, h.le, h.lo⟩
theorem Cur.drewN (h : Cur w g base bs A c at_ er) (q : Nat) : Cur (w.drewN q) g base bs A c at_ er := ⟨h.blk, h.own, h.le, h.lo⟩
theorem Cur.step (h : Cur w g base bs A c at_ er) (hb : Below w.heap.size w w') : Cur w' g base bs A c at_ er :=
  ⟨h.blk.step hb, own_kept h.own (fun x hx => hb.block x (World.ownsRow.lt h.own x hx).2), h.le, h.lo⟩
theorem Cur.cells (h : Cur w g base bs A c at_ er) : w.cell? ⟨g, 0, none⟩ = some (.slice A bs.length c) ∧ w.cell? ⟨g, 1, none⟩ = some (.int .i64 at_) ∧ w.cell? ⟨g, 2, none⟩ = some (.int .i64 er) := ⟨h.blk.cell 0, h.blk.cell 1, h.blk.cell 2⟩
theorem Cur.setErr (h : Cur w g base bs A c at_ er) (e2 : Int) : Cur (w.setCell ⟨g, 2, none⟩ (.int .i64 e2)) g base bs A c at_ e2 :=
  ⟨h.blk.set 2 _, own_kept h.own (fun x hx => Below.heap_setCell w _ _ x (fun e => own_blk h.own h.blk (by decide) (hx.trans (congrArg some e)))), h.le, h.lo⟩
theorem Cur.setAt (h : Cur w g base bs A c at_ er) (at2 : Nat) (h2 : at2 ≤ bs.length) : Cur (w.setCell ⟨g, 1, none⟩ (.int .i64 at2)) g base bs A c at2 er :=
  ⟨h.blk.set 1 _, own_kept h.own (fun x hx => Below.heap_setCell w _ _ x (fun e => own_blk h.own h.blk (by decide) (hx.trans (congrArg some e)))), h2, h.lo⟩
end
set_option maxRecDepth 100000 in
theorem new_any (w : World) (A : Option Addr) (n c : Nat) (ls : List Nat) (hn : ls.length = n) (hle : n ≤ 100000) (hnil : A = none → n = 0 ∧ c = 0) (ha : Row w w.heap.size A n 1 (numF .u8 ls)) :
    Calls Tryz.prog 61 #[.slice A n c] w fun e w' => ∃ g B d, e = .returned (.pointer (some ⟨g, 0, none⟩)) ∧ Cur w' g w.heap.size ls B d 0 0 ∧ Below w.heap.size w w' := by
  have D := Lib.hid (clone_u8 w A n c ls hn hle hnil ha)
  have HN := Lib.hid hn
  clear hn hnil ha
  go_enter Tryz.func61, Tryz.ntmps61
  go_wp2_with fail
  refine D.out.mono ?_
  rintro e w1 ⟨v, rfl, hown, hb⟩
  obtain ⟨B, d, rfl⟩ := own_shape hown
  have hz := hb.size
  have HO := Lib.hid hown
  have HB := Lib.hid hb
  clear hown hb D
  go_wp2_with fail
  go_ret
  refine ⟨w1.heap.size, B, d, rfl, ⟨?_, ?_, Nat.zero_le _, hz⟩, bel_alloc hz HB.out⟩
  · rw [HN.out]; exact Blk.made _ _ _
  · have h := HO.out.alloc (.cells #[.slice B n d, .int .i64 0, .int .i64 0] 161)
    rw [HN.out]
    exact h
set_option maxRecDepth 100000 in
theorem err_any (w : World) (g base : Nat) (bs : List Nat) (A : Option Addr) (c at_ : Nat) (er : Int) (h : Cur w g base bs A c at_ er) :
    Calls Tryz.prog 131 #[.pointer (some ⟨g, 0, none⟩)] w fun e w' => e = .returned (.int .i64 er) ∧ w' = w := by
  obtain ⟨d0, d1, d2⟩ := h.cells
  clear h
  go_enter Tryz.func131, Tryz.ntmps131
  go_wp2_with fail
  go_ret
  exact ⟨rfl, rfl⟩
set_option maxRecDepth 100000 in
theorem at_any (w : World) (g base : Nat) (bs : List Nat) (A : Option Addr) (c at_ : Nat) (er : Int) (h : Cur w g base bs A c at_ er) :
    Calls Tryz.prog 175 #[.pointer (some ⟨g, 0, none⟩)] w fun e w' => e = .returned (.int .i64 at_) ∧ w' = w := by
  obtain ⟨d0, d1, d2⟩ := h.cells
  clear h
  go_enter Tryz.func175, Tryz.ntmps175
  go_wp2_with fail
  go_ret
  exact ⟨rfl, rfl⟩
def failE (er e2 : Int) : Int := if er = 0 then e2 else er
set_option maxRecDepth 100000 in
theorem fail_any (w : World) (g base : Nat) (bs : List Nat) (A : Option Addr) (c at_ : Nat) (er e2 : Int) (h : Cur w g base bs A c at_ er) :
    Calls Tryz.prog 130 #[.pointer (some ⟨g, 0, none⟩), .int .i64 e2] w fun e w' => e = .returned (.tuple #[]) ∧ Cur w' g base bs A c at_ (failE er e2) ∧ Kept (fun x => x ≠ g) w w' := by
  obtain ⟨d0, d1, d2⟩ := h.cells
  have f2 := h.blk.frozen 2
  have H := Lib.hid h
  clear h
  unfold failE
  by_cases he : er = 0
  · subst he
    rw [if_pos rfl]
    go_enter Tryz.func130, Tryz.ntmps130
    go_wp2_with fail
    refine bodyPost_end (results_none rfl _ _ _) rfl ?_
    exact ⟨rfl, H.out.setErr e2, (Kept.refl _ _).set (fun h => h rfl) _⟩
  · rw [if_neg he]
    have g1 : (er == 0) = false := by simpa using he
    clear he
    go_enter Tryz.func130, Tryz.ntmps130
    go_wp2_with fail
    refine bodyPost_end (results_none rfl _ _ _) rfl ?_
    exact ⟨rfl, H.out, Kept.refl _ _⟩
set_option maxRecDepth 100000 in
theorem rest_any (w : World) (g base : Nat) (bs : List Nat) (A : Option Addr) (c at_ : Nat) (er : Int) (h : Cur w g base bs A c at_ er) :
    Calls Tryz.prog 192 #[.pointer (some ⟨g, 0, none⟩)] w fun e w' => e = .returned (.slice (cutA A at_ c 1) (bs.length - at_) (c - at_)) ∧ ∃ q, w' = w.drewN q := by
  obtain ⟨d0, d1, d2⟩ := h.cells
  have kc := fun wx => run_cut (P := Tryz.prog) (t := 22) (s := 1) Tryz.underlying22 (fun _ => by kernel_rfl) A bs.length c .i64 (at_ : Int) at_ rfl h.le wx
  generalize bs.length = n at *
  clear h
  go_enter Tryz.func192, Tryz.ntmps192
  go_wp2_with fail
  go_quiet (fail)
  go_wp2_with fail
  go_ret
  exact ⟨rfl, _, rfl⟩
end Go.Proofs.YtmgjgkdbagbleaaGreatDoor.Nums
namespace Go.Proofs.YtmgjgkdbagbleaaGreatDoor.Nums
open Go.RowKit Go.Proofs.YtmgjgkdbagbleaaGreatDoor.Mem Go.Proofs.YtmgjgkdbagbleaaGreatDoor.Own Go.Proofs.YtmgjgkdbagbleaaGreatDoor.Canon
open Go.Proofs.YtmgjgkdbagbleaaGreatDoor.Crc (row_num_drop row_num_take run_cuth')
theorem set_own {w : World} {base s n : Nat} {e : TypeId} {v : Value} {xs : List Value} {p : Addr} (h : w.ownsRow base e s v n xs) (hr : v.ownBlock ≠ some p.block) (u : Value) : (w.setCell p u).ownsRow base e s v n xs :=
  own_kept h fun b hb => Below.heap_setCell w p u b (fun e => hr (hb.trans (congrArg some e)))
def Others (g : Nat) (w : World) (x : Nat) : Prop := x < w.heap.size ∧ x ≠ g
set_option maxRecDepth 100000 in
theorem read_err (w : World) (g base : Nat) (bs : List Nat) (A : Option Addr) (c at_ : Nat) (er : Int) (h : Cur w g base bs A c at_ er) (he : er ≠ 0) (u : Value) :
    Calls Tryz.prog 189 #[.pointer (some ⟨g, 0, none⟩), u] w fun e w' => e = .returned (.bool false) ∧ w' = w := by
  have D := Lib.hid (err_any w g base bs A c at_ er h)
  have g1 : (er != 0) = true := by simpa using he
  clear h he
  go_enter Tryz.func189, Tryz.ntmps189
  go_wp2_with fail
  refine D.out.mono ?_
  rintro e w1 ⟨rfl, rfl⟩
  go_wp2_with fail
  go_ret
  exact ⟨rfl, rfl⟩
set_option maxRecDepth 100000 in
theorem read_ok (w : World) (g base : Nat) (bs : List Nat) (A : Option Addr) (c at_ : Nat) (h : Cur w g base bs A c at_ 0) (hle : bs.length ≤ 100000) (K : Nat) (caps : Array Value) (R : Nat → Int → World → Prop)
    (hK : ∀ args wx, (callFunc K args).run Tryz.prog wx = .ok (.enter K args) wx)
    (hs : ∀ q, Calls Tryz.prog K (#[.slice (cutA A at_ c 1) (bs.length - at_) (c - at_)] ++ caps) (w.drewN q) fun e w' => ∃ (k : Nat) (e2 : Int), e = .returned (.tuple #[.int .i64 k, .int .i64 e2]) ∧ k ≤ 100000 ∧ Cur w' g base bs A c at_ 0 ∧ R k e2 w') :
    Calls Tryz.prog 189 #[.pointer (some ⟨g, 0, none⟩), .func (.func K) #[] caps] w fun e w' => ∃ (k : Nat) (e2 : Int) (w2 : World), R k e2 w2 ∧ Cur w2 g base bs A c at_ 0 ∧
      ((e2 ≠ 0 ∧ e = .returned (.bool false) ∧ w' = w2.setCell ⟨g, 2, none⟩ (.int .i64 e2)) ∨ (e2 = 0 ∧ e = .returned (.bool true) ∧ w' = w2.setCell ⟨g, 1, none⟩ (.int .i64 (at_ + k : Nat)))) := by
  have D := Lib.hid (err_any w g base bs A c at_ 0 h)
  have D2 := Lib.hid (rest_any w g base bs A c at_ 0 h)
  have hat := h.le
  have HS := Lib.hid hs
  clear h hs
  go_enter Tryz.func189, Tryz.ntmps189
  go_wp2_with fail
  refine D.out.mono ?_
  rintro e w1 ⟨rfl, rfl⟩
  go_wp2_with fail
  refine D2.out.mono ?_
  rintro e w2 ⟨rfl, q, rfl⟩
  go_wp2_with fail
  refine (HS.out q).mono ?_
  rintro e w3 ⟨k, e2, rfl, hk, hc, hR⟩
  obtain ⟨d0, d1, d2⟩ := hc.cells
  have f1 := hc.blk.frozen 1
  have f2 := hc.blk.frozen 2
  have HC := Lib.hid hc
  have HR := Lib.hid hR
  clear hc hR D D2 HS
  by_cases he : e2 = 0
  · subst he
    have s1 : IntKind.i64.wrap ((at_ : Int) + (k : Int)) = ((at_ + k : Nat) : Int) := by rw [IntWalk.i64_in _ (by omega)]; omega
    go_wp2_with fail
    go_ret
    exact ⟨k, 0, w3, HR.out, HC.out, .inr ⟨rfl, rfl, by simp⟩⟩
  · have g1 : (e2 != 0) = true := by simpa using he
    have HE := Lib.hid he
    clear he
    go_wp2_with fail
    go_ret
    exact ⟨k, e2, w3, HR.out, HC.out, .inl ⟨HE.out, rfl, rfl⟩⟩
def takeO (bs : List Nat) (at_ : Nat) (er : Int) (n : Nat) : List Nat := if er ≠ 0 then [] else if bs.length - at_ < n then [] else (bs.drop at_).take n
def takeA (bs : List Nat) (at_ : Nat) (er : Int) (n : Nat) : Nat := if er ≠ 0 then at_ else if bs.length - at_ < n then at_ else at_ + n
def takeE (bs : List Nat) (at_ : Nat) (er : Int) (n : Nat) : Int := if er ≠ 0 then er else if bs.length - at_ < n then 1 else 0
def TakePost (w : World) (g base : Nat) (bs : List Nat) (A : Option Addr) (c at_ : Nat) (er : Int) (n : Nat) (e : Ending) (w' : World) : Prop :=
  ∃ v, e = .returned v ∧ w'.ownsRow w.heap.size 5 1 v (takeO bs at_ er n).length (numL .u8 (takeO bs at_ er n)) ∧ Cur w' g base bs A c (takeA bs at_ er n) (takeE bs at_ er n) ∧ Kept (Others g w) w w'
def TakeR (w : World) (g ob : Nat) (bs : List Nat) (at_ n : Nat) (k : Nat) (e2 : Int) (w' : World) : Prop :=
  Kept (fun x => x < w.heap.size ∧ x ≠ g ∧ x ≠ ob) w w' ∧ (k : Int) = (if bs.length - at_ < n then 0 else n) ∧ e2 = (if bs.length - at_ < n then 1 else 0) ∧
    ∃ v, Blk w' ob 22 #[v] ∧ w'.ownsRow w.heap.size 5 1 v (takeO bs at_ 0 n).length (numL .u8 (takeO bs at_ 0 n))
set_option maxRecDepth 100000 in
theorem takestep_any (w : World) (g base nb ob : Nat) (bs : List Nat) (A : Option Addr) (c at_ n : Nat) (hle : bs.length ≤ 100000) (hn : n ≤ 1000000000) (h : Cur w g base bs A c at_ 0) (hnb : Blk w nb 3 #[.int .i64 n]) (hob : Blk w ob 22 #[.slice none 0 0]) :
    Calls Tryz.prog 234 #[.slice (cutA A at_ c 1) (bs.length - at_) (c - at_), .pointer (some ⟨nb, 0, none⟩), .pointer (some ⟨ob, 0, none⟩)] w fun e w' => ∃ (k : Nat) (e2 : Int), e = .returned (.tuple #[.int .i64 k, .int .i64 e2]) ∧ k ≤ 100000 ∧ Cur w' g base bs A c at_ 0 ∧ TakeR w g ob bs at_ n k e2 w' := by
  have d0 := hnb.cell 0
  have d1 := hob.cell 0
  have f1 := hob.frozen 0
  simp only [List.getElem?_toArray, List.getElem?_cons_zero] at d0 d1
  have hwf := own_wf h.own
  have hat := h.le
  have hrow := row_num_drop (own_row h.own) hat hwf.2
  have hhead := own_head h.own
  have hne1 := Blk.apart hob h.blk (by decide)
  unfold TakeR
  rw [show takeO bs at_ 0 n = if bs.length - at_ < n then [] else (bs.drop at_).take n from if_neg (by simp)]
  by_cases hlt : bs.length - at_ < n
  · rw [if_pos hlt, if_pos hlt, if_pos hlt]
    have g0 : decide ((n : Int) < 0) = false := by simp
    have g1 : decide (((bs.length - at_ : Nat) : Int) < (n : Int)) = true := by simp; omega
    have g2 : decide (bs.length - at_ < n) = true := by simp; omega
    have H := Lib.hid h
    have HO := Lib.hid hob
    clear hrow hhead hwf hlt h hnb hob
    go_enter Tryz.func234, Tryz.ntmps234
    go_wp2_with fail
    go_ret2
    exact ⟨0, 1, rfl, by omega, H.out, Kept.refl _ _, rfl, rfl, _, HO.out, World.ownsRow_nil _ _ _ _⟩
  · rw [if_neg hlt, if_neg hlt, if_neg hlt]
    have g0 : decide ((n : Int) < 0) = false := by simp
    have g1 : decide (((bs.length - at_ : Nat) : Int) < (n : Int)) = false := by simp; omega
    have g2 : decide (bs.length - at_ < n) = false := by simp; omega
    have hcut : ∀ a, cutA A at_ c 1 = some a → a.add 0 = a := by
      intro a ha
      unfold cutA at ha
      split at ha
      · exact hhead a ha
      · cases A with
        | none => cases ha
        | some a0 =>
          have h0 := hhead a0 rfl
          injection ha with ha
          subst ha
          rcases h.own.2 with ⟨hv, _⟩ | ⟨gg, cap, cur, hv, _⟩
          · cases hv
          · injection hv with e1 e2 e3
            injection e1 with e1
            subst e1
            show Addr.add (Addr.add ⟨gg, 0, none⟩ (at_ * 1)) 0 = Addr.add ⟨gg, 0, none⟩ (at_ * 1)
            rw [add_none', add_none', Nat.add_zero]
    have ks := fun wx => run_cuth' (P := Tryz.prog) (t := 22) (s := 1) Tryz.underlying22 (fun _ => by kernel_rfl) (cutA A at_ c 1) (bs.length - at_) (c - at_) .i64 (n : Int) n rfl (by have := hwf.2; omega) hcut wx
    have hnone : cutA A at_ c 1 = none → n = 0 ∧ c - at_ = 0 := by
      intro ha
      have hA : A = none := by
        unfold cutA at ha
        split at ha
        · exact ha
        · cases A with
          | none => rfl
          | some a => cases ha
      have := hwf.1 hA
      omega
    have htl : ((bs.drop at_).take n).length = n := by rw [List.length_take, List.length_drop]; omega
    have D := Lib.hid (clone_u8 w (cutA A at_ c 1) n (c - at_) ((bs.drop at_).take n) htl (by omega) hnone (row_num_take hrow (by omega)))
    have H := Lib.hid h
    have HO := Lib.hid hob
    generalize hdd : (bs.drop at_).take n = ls at *
    have HTL := Lib.hid htl
    generalize cutA A at_ c 1 = A1 at *
    have hnl : n ≤ 100000 := by omega
    clear hrow hhead hwf hlt h hnb hob hcut hnone hdd htl
    go_enter Tryz.func234, Tryz.ntmps234
    go_wp2_with fail
    refine D.out.mono ?_
    rintro e w1 ⟨v, rfl, hown, hb⟩
    obtain ⟨A2, c2, rfl⟩ := own_shape hown
    have hob1 := HO.out.step hb
    have h1 := H.out.step hb
    have hz := hb.size
    have k1 := hob1.cell 0
    have k2 := hob1.frozen 0
    have hobl := HO.out.lt
    have k0 : w1.cell? ⟨nb, 0, none⟩ = some (.int .i64 n) := (hb.cell (p := ⟨nb, 0, none⟩) (World.block_lt_of_cell? _ _ d0)).trans d0
    simp only [List.getElem?_toArray, List.getElem?_cons_zero] at k1
    have hne2 : nb ≠ ob := by
      intro e
      subst e
      rw [d0] at d1
      cases d1
    have k3 : (w1.setCell ⟨ob, 0, none⟩ (.slice A2 n c2)).cell? ⟨nb, 0, none⟩ = some (.int .i64 n) := by
      rw [World.cell?_setCell_other _ _ _ _ (by intro e; injection e with e _; exact hne2 e.symm)]
      exact k0
    have H1 := Lib.hid h1
    have HB1 := Lib.hid hob1
    have HO1 := Lib.hid hown
    have HB := Lib.hid hb
    clear h1 hob1 hown hb D HO H d0 d1 f1
    go_wp2_with fail
    go_ret2
    refine ⟨n, 0, rfl, hnl, ?_, ?_, rfl, rfl, _, HB1.out.set 0 _, ?_⟩
    · exact ⟨H1.out.blk.far (fun e => hne1 e.symm) _, set_own H1.out.own (own_blk H1.out.own HB1.out (by decide)) _, hat, H1.out.lo⟩
    · exact (Kept.of_below HB.out (fun x hx => hx.1)).set (fun h => h.2.2 rfl) _
    · rw [HTL.out]
      exact set_own HO1.out (own_blk HO1.out HB1.out (by decide)) _
theorem take0 (bs : List Nat) (at_ n : Nat) : takeO bs at_ 0 n = if bs.length - at_ < n then [] else (bs.drop at_).take n := if_neg (by simp)
theorem takeA0 (bs : List Nat) (at_ n : Nat) : takeA bs at_ 0 n = if bs.length - at_ < n then at_ else at_ + n := if_neg (by simp)
theorem takeE0 (bs : List Nat) (at_ n : Nat) : takeE bs at_ 0 n = if bs.length - at_ < n then 1 else 0 := if_neg (by simp)
theorem takeO_le (bs : List Nat) (at_ : Nat) (er : Int) (n : Nat) : (takeO bs at_ er n).length ≤ n := by
  unfold takeO
  split
  · simp
  · split
    · simp
    · rw [List.length_take]; omega
theorem takeA_le (bs : List Nat) (at_ : Nat) (er : Int) (n : Nat) (h : at_ ≤ bs.length) : takeA bs at_ er n ≤ bs.length := by
  unfold takeA
  split
  · exact h
  · split
    · exact h
    · omega
set_option maxRecDepth 100000 in
theorem take_any (w : World) (g base : Nat) (bs : List Nat) (A : Option Addr) (c at_ : Nat) (er : Int) (n : Nat) (hle : bs.length ≤ 100000) (hn : n ≤ 1000000000) (h : Cur w g base bs A c at_ er) :
    Calls Tryz.prog 174 #[.pointer (some ⟨g, 0, none⟩), .int .i64 n] w (TakePost w g base bs A c at_ er n) := by
  have hgl := h.blk.lt
  have h2 : Cur ((w.alloc (.cells #[.int .i64 n] 3)).alloc (.cells #[.slice none 0 0] 22)) g base bs A c at_ er := (h.step (bel_alloc0 (Below.refl _ _))).step (bel_alloc0 (Below.refl _ _))
  have hnb : Blk ((w.alloc (.cells #[.int .i64 n] 3)).alloc (.cells #[.slice none 0 0] 22)) w.heap.size 3 #[.int .i64 n] := (Blk.made _ _ _).alloc _
  have hob : Blk ((w.alloc (.cells #[.int .i64 n] 3)).alloc (.cells #[.slice none 0 0] 22)) (w.heap.size + 1) 22 #[.slice none 0 0] := Blk.made_at _ _ _ (by simp)
  have hk2 : Kept (fun x => x < w.heap.size ∧ x ≠ g) w ((w.alloc (.cells #[.int .i64 n] 3)).alloc (.cells #[.slice none 0 0] 22)) := Kept.of_below (by (repeat (first | (with_reducible exact Below.refl _ _) | (with_reducible assumption) | (with_reducible refine Below.drew ?_) | (with_reducible refine below_drewN ?_ _) | ((with_reducible refine bel_set ?_ ?_); (focus (first | (simp; done) | (simp; omega) | omega | (simp at *; omega)))) | (with_reducible refine bel_alloc0 ?_) | (with_reducible refine bel_step0 (by assumption) ?_) | ((with_reducible refine bel_alloc ?_ ?_); (focus (first | (simp; done) | (simp; omega) | omega | (simp at *; omega)))) | ((with_reducible refine bel_step (by assumption) ?_ ?_); (focus (first | (simp; done) | (simp; omega) | omega | (simp at *; omega)))))) : Below w.heap.size w _) (fun x hx => hx.1)
  have hsz : ((w.alloc (.cells #[.int .i64 n] 3)).alloc (.cells #[.slice none 0 0] 22)).heap.size = w.heap.size + 2 := by simp
  have hat := h.le
  unfold TakePost
  by_cases he : er = 0
  · subst he
    have hKf : ∀ args wx, (callFunc 234 args).run Tryz.prog wx = .ok (.enter 234 args) wx := by
      intro args wx; simp [callFunc, go_sem, Tryz.func234]; rfl
    have D := fun w2 (hc2 : Cur w2 g base bs A c at_ 0) (hnb : Blk w2 w.heap.size 3 #[.int .i64 n]) (hob : Blk w2 (w.heap.size + 1) 22 #[.slice none 0 0]) => read_ok w2 g base bs A c at_ hc2 hle 234 #[.pointer (some ⟨w.heap.size, 0, none⟩), .pointer (some ⟨w.heap.size + 1, 0, none⟩)] (fun k e2 w' => TakeR w2 g (w.heap.size + 1) bs at_ n k e2 w') hKf
      (fun q => (takestep_any (w2.drewN q) g base w.heap.size (w.heap.size + 1) bs A c at_ n hle hn (hc2.drewN q) (hnb.drewN q) (hob.drewN q)).mono fun e w' ⟨k, e2, h1, h2, h3, h4⟩ => ⟨k, e2, h1, h2, h3, ⟨⟨h4.1.os, h4.1.tape, h4.1.output, h4.1.size, h4.1.block⟩, h4.2⟩⟩)
    have D := Lib.hid (D _ h2 hnb hob)
    have HK := Lib.hid hk2
    clear hKf h2 hnb hob hk2
    have hgo : w.heap.size + 1 ≠ g := by omega
    by_cases hlt : bs.length - at_ < n
    · have eO : takeO bs at_ 0 n = [] := (take0 _ _ _).trans (if_pos hlt)
      have eA : takeA bs at_ 0 n = at_ := (takeA0 _ _ _).trans (if_pos hlt)
      have eE : takeE bs at_ 0 n = 1 := (takeE0 _ _ _).trans (if_pos hlt)
      unfold TakeR at D
      rw [eO, if_pos hlt, if_pos hlt] at D
      rw [eO, eA, eE]
      clear eO eA eE hlt
      go_enter Tryz.func174, Tryz.ntmps174
      go_wp2_with fail
      refine D.out.mono ?_
      rintro e w4 ⟨k, e2, w3, ⟨hk3, hkk, hee, v, hblk, hown⟩, hc3, hcase⟩
      have HK3 : Hid (Kept (fun x => x < w.heap.size ∧ x ≠ g) w w3) := HK.out.trans ⟨hk3.os, hk3.tape, hk3.output, hk3.size, fun x hx => hk3.block x ⟨by omega, hx.2, by omega⟩⟩
      obtain ⟨va, vc, rfl⟩ := own_shape hown
      subst hee
      rcases hcase with ⟨_, rfl, rfl⟩ | ⟨h0, _, _⟩
      · have hB := hblk.far (fun e => hgo e) (p := ⟨g, 2, none⟩) (.int .i64 1)
        have d0 := hB.cell 0
        simp only [List.getElem?_toArray, List.getElem?_cons_zero] at d0
        have HC := Lib.hid (hc3.setErr 1)
        have HO := Lib.hid (own_mono (set_own (p := ⟨g, 2, none⟩) hown (own_blk hown hc3.blk (by decide)) (.int .i64 1)) (show w.heap.size ≤ _ by omega))
        have HK4 : Hid (Kept (fun x => x < w.heap.size ∧ x ≠ g) w (w3.setCell ⟨g, 2, none⟩ (.int .i64 1))) := HK3.out.set (fun h => h.2 rfl) _
        generalize w3.setCell ⟨g, 2, none⟩ (.int .i64 1) = w5 at *
        clear hB hblk hown hc3 hk3 D HK3 HK hkk
        go_wp2_with fail
        go_ret
        exact ⟨_, rfl, HO.out, HC.out, HK4.out⟩
      · cases h0
    · have hge : n ≤ bs.length - at_ := by omega
      have eO : takeO bs at_ 0 n = (bs.drop at_).take n := (take0 _ _ _).trans (if_neg hlt)
      have eA : takeA bs at_ 0 n = at_ + n := (takeA0 _ _ _).trans (if_neg hlt)
      have eE : takeE bs at_ 0 n = 0 := (takeE0 _ _ _).trans (if_neg hlt)
      unfold TakeR at D
      rw [eO, if_neg hlt, if_neg hlt] at D
      rw [eO, eA, eE]
      clear eO eA eE hlt
      generalize (bs.drop at_).take n = ls at *
      go_enter Tryz.func174, Tryz.ntmps174
      go_wp2_with fail
      refine D.out.mono ?_
      rintro e w4 ⟨k, e2, w3, ⟨hk3, hkk, hee, v, hblk, hown⟩, hc3, hcase⟩
      have HK3 : Hid (Kept (fun x => x < w.heap.size ∧ x ≠ g) w w3) := HK.out.trans ⟨hk3.os, hk3.tape, hk3.output, hk3.size, fun x hx => hk3.block x ⟨by omega, hx.2, by omega⟩⟩
      obtain ⟨va, vc, rfl⟩ := own_shape hown
      subst hee
      rcases hcase with ⟨h0, _, _⟩ | ⟨_, rfl, rfl⟩
      · exact absurd rfl h0
      · obtain rfl : k = n := by omega
        have hB := hblk.far (fun e => hgo e) (p := ⟨g, 1, none⟩) (.int .i64 (at_ + k : Nat))
        have d0 := hB.cell 0
        simp only [List.getElem?_toArray, List.getElem?_cons_zero] at d0
        have HC := Lib.hid (hc3.setAt (at_ + k) (by omega))
        have HO := Lib.hid (own_mono (set_own (p := ⟨g, 1, none⟩) hown (own_blk hown hc3.blk (by decide)) (.int .i64 (at_ + k : Nat))) (show w.heap.size ≤ _ by omega))
        have HK4 : Hid (Kept (fun x => x < w.heap.size ∧ x ≠ g) w (w3.setCell ⟨g, 1, none⟩ (.int .i64 (at_ + k : Nat)))) := HK3.out.set (fun h => h.2 rfl) _
        generalize w3.setCell ⟨g, 1, none⟩ (.int .i64 (at_ + k : Nat)) = w5 at *
        clear hB hblk hown hc3 hk3 D HK3 HK hkk
        go_wp2_with fail
        go_ret
        exact ⟨_, rfl, HO.out, HC.out, HK4.out⟩
  · have D := Lib.hid (read_err _ g base bs A c at_ er h2 he (.func (.func 234) #[] #[.pointer (some ⟨w.heap.size, 0, none⟩), .pointer (some ⟨w.heap.size + 1, 0, none⟩)]))
    have eO : takeO bs at_ er n = [] := if_pos he
    have eA : takeA bs at_ er n = at_ := if_pos he
    have eE : takeE bs at_ er n = er := if_pos he
    rw [eO, eA, eE]
    have HK := Lib.hid hk2
    have HC := Lib.hid h2
    have d0 := hob.cell 0
    simp only [List.getElem?_toArray, List.getElem?_cons_zero] at d0
    clear h2 hnb hob hk2 he eO eA eE
    go_enter Tryz.func174, Tryz.ntmps174
    go_wp2_with fail
    refine D.out.mono ?_
    rintro e w4 ⟨rfl, rfl⟩
    go_wp2_with fail
    go_ret
    exact ⟨_, rfl, World.ownsRow_nil _ _ _ _, HC.out, HK.out⟩
def byteV (bs : List Nat) (at_ : Nat) (er : Int) : Nat := if er ≠ 0 then 0 else bs.getD at_ 0
set_option maxRecDepth 100000 in
theorem byte_any (w : World) (g base : Nat) (bs : List Nat) (A : Option Addr) (c at_ : Nat) (er : Int) (hle : bs.length ≤ 100000) (h : Cur w g base bs A c at_ er) :
    Calls Tryz.prog 129 #[.pointer (some ⟨g, 0, none⟩)] w fun e w' => e = .returned (.int .u8 (byteV bs at_ er : Nat)) ∧ Cur w' g base bs A c (takeA bs at_ er 1) (takeE bs at_ er 1) ∧ Kept (Others g w) w w' := by
  have D := take_any w g base bs A c at_ er 1 hle (by omega) h
  unfold TakePost at D
  by_cases hc : er = 0 ∧ at_ < bs.length
  · have hO : takeO bs at_ er 1 = [bs.getD at_ 0] := by
      rw [hc.1, take0, if_neg (by omega), List.drop_eq_getElem_cons hc.2, List.getD_eq_getElem?_getD, List.getElem?_eq_getElem hc.2]
      rfl
    have hV : byteV bs at_ er = bs.getD at_ 0 := if_neg (by simp [hc.1])
    rw [hO] at D
    rw [hV]
    have D := Lib.hid D
    clear hO hV hc h
    generalize bs.getD at_ 0 = x at *
    go_enter Tryz.func129, Tryz.ntmps129
    go_wp2_with fail
    refine D.out.mono ?_
    rintro e w1 ⟨v, rfl, hown, hc, hk⟩
    obtain ⟨g2, c2, hv, _⟩ := hown.form (by simp)
    subst hv
    have c0 := hown.cellAt 0 (by simp)
    simp only [numL, List.map_cons, List.map_nil] at c0
    have HC := Lib.hid hc
    have HK := Lib.hid hk
    clear hown hc hk D
    go_wp2_with fail
    go_ret
    exact ⟨rfl, HC.out, HK.out⟩
  · have hO : takeO bs at_ er 1 = [] := by
      by_cases he : er = 0
      · rw [he, take0, if_pos (by omega)]
      · exact if_pos he
    have hV : byteV bs at_ er = 0 := by
      unfold byteV
      split
      · rfl
      · rw [List.getD_eq_getElem?_getD, List.getElem?_eq_none (by omega)]; rfl
    rw [hO] at D
    rw [hV]
    have D := Lib.hid D
    clear hO hV hc h
    go_enter Tryz.func129, Tryz.ntmps129
    go_wp2_with fail
    refine D.out.mono ?_
    rintro e w1 ⟨v, rfl, hown, hc, hk⟩
    obtain ⟨A2, c2, rfl⟩ := own_shape hown
    have HC := Lib.hid hc
    have HK := Lib.hid hk
    simp only [List.length_nil] at hown
    clear hown hc hk D
    go_wp2_with fail
    go_ret
    exact ⟨rfl, HC.out, HK.out⟩
def intV (most : Nat) (bs : List Nat) (at_ : Nat) (er : Int) : Nat := if er ≠ 0 then 0 else (limP most (bs.drop at_)).1
def intA (most : Nat) (bs : List Nat) (at_ : Nat) (er : Int) : Nat := if er ≠ 0 then at_ else at_ + (limP most (bs.drop at_)).2.1
def intE (most : Nat) (bs : List Nat) (at_ : Nat) (er : Int) : Int := if er ≠ 0 then er else (limP most (bs.drop at_)).2.2
set_option maxRecDepth 100000 in
theorem intstep_any (w : World) (g base mb ob : Nat) (bs : List Nat) (A : Option Addr) (c at_ most : Nat) (hle : bs.length ≤ 100000) (h8 : ∀ x ∈ bs, x ≤ 255) (hmost : most ≤ 1000000000) (h : Cur w g base bs A c at_ 0) (hmb : Blk w mb 3 #[.int .i64 most]) (hob : Blk w ob 3 #[.int .i64 0]) :
    Calls Tryz.prog 190 #[.slice (cutA A at_ c 1) (bs.length - at_) (c - at_), .pointer (some ⟨mb, 0, none⟩), .pointer (some ⟨ob, 0, none⟩)] w fun e w' => ∃ (k : Nat) (e2 : Int), e = .returned (.tuple #[.int .i64 k, .int .i64 e2]) ∧ k ≤ 100000 ∧ Cur w' g base bs A c at_ 0 ∧
      (Kept (fun x => x ≠ ob) w w' ∧ k = (limP most (bs.drop at_)).2.1 ∧ e2 = (limP most (bs.drop at_)).2.2 ∧ Blk w' ob 3 #[.int .i64 (limP most (bs.drop at_)).1]) := by
  have d0 := hmb.cell 0
  have f1 := hob.frozen 0
  have d1 := hob.cell 0
  simp only [List.getElem?_toArray, List.getElem?_cons_zero] at d0 d1
  have hwf := own_wf h.own
  have hrow := row_num_drop (own_row h.own) h.le hwf.2
  have h8' : ∀ x ∈ bs.drop at_, x ≤ 255 := fun x hx => h8 x (List.mem_of_mem_drop hx)
  have D := limited_any w (cutA A at_ c 1) (bs.length - at_) (c - at_) (bs.drop at_) most hmost (by rw [List.length_drop]) (by omega) h8' hrow
  have hsp := limP_spec most (bs.drop at_) h8'
  have hk : (limP most (bs.drop at_)).2.1 ≤ 100000 := by have := hsp.2.1; rw [List.length_drop] at this; omega
  generalize limP most (bs.drop at_) = R at *
  have hne1 := Blk.apart hob h.blk (by decide)
  have D := Lib.hid D
  have H := Lib.hid h
  have HO := Lib.hid hob
  generalize cutA A at_ c 1 = A1 at *
  clear hrow h8' hsp h hob hmb hwf
  go_enter Tryz.func190, Tryz.ntmps190
  go_wp2_with fail
  refine D.out.mono ?_
  rintro e w1 ⟨rfl, rfl⟩
  go_wp2_with fail
  go_ret2
  refine ⟨R.2.1, R.2.2, rfl, hk, ?_, (Kept.refl _ _).set (fun h => h rfl) _, rfl, rfl, HO.out.set 0 _⟩
  exact ⟨H.out.blk.far (fun e => hne1 e.symm) _, set_own H.out.own (own_blk H.out.own HO.out (by decide)) _, H.out.le, H.out.lo⟩
set_option maxRecDepth 100000 in
theorem int_any (w : World) (g base : Nat) (bs : List Nat) (A : Option Addr) (c at_ : Nat) (er : Int) (most : Nat) (hle : bs.length ≤ 100000) (h8 : ∀ x ∈ bs, x ≤ 255) (hmost : most ≤ 1000000000) (h : Cur w g base bs A c at_ er) :
    Calls Tryz.prog 128 #[.pointer (some ⟨g, 0, none⟩), .int .i64 most] w fun e w' => e = .returned (.int .i64 (intV most bs at_ er : Nat)) ∧ Cur w' g base bs A c (intA most bs at_ er) (intE most bs at_ er) ∧ Kept (Others g w) w w' := by
  have hgl := h.blk.lt
  have h2 : Cur ((w.alloc (.cells #[.int .i64 most] 3)).alloc (.cells #[.int .i64 0] 3)) g base bs A c at_ er := (h.step (bel_alloc0 (Below.refl _ _))).step (bel_alloc0 (Below.refl _ _))
  have hnb : Blk ((w.alloc (.cells #[.int .i64 most] 3)).alloc (.cells #[.int .i64 0] 3)) w.heap.size 3 #[.int .i64 most] := (Blk.made _ _ _).alloc _
  have hob : Blk ((w.alloc (.cells #[.int .i64 most] 3)).alloc (.cells #[.int .i64 0] 3)) (w.heap.size + 1) 3 #[.int .i64 0] := Blk.made_at _ _ _ (by simp)
  have hk2 : Kept (fun x => x < w.heap.size ∧ x ≠ g) w ((w.alloc (.cells #[.int .i64 most] 3)).alloc (.cells #[.int .i64 0] 3)) := Kept.of_below (by (repeat (first | (with_reducible exact Below.refl _ _) | (with_reducible assumption) | (with_reducible refine Below.drew ?_) | (with_reducible refine below_drewN ?_ _) | ((with_reducible refine bel_set ?_ ?_); (focus (first | (simp; done) | (simp; omega) | omega | (simp at *; omega)))) | (with_reducible refine bel_alloc0 ?_) | (with_reducible refine bel_step0 (by assumption) ?_) | ((with_reducible refine bel_alloc ?_ ?_); (focus (first | (simp; done) | (simp; omega) | omega | (simp at *; omega)))) | ((with_reducible refine bel_step (by assumption) ?_ ?_); (focus (first | (simp; done) | (simp; omega) | omega | (simp at *; omega)))))) : Below w.heap.size w _) (fun x hx => hx.1)
  have hat := h.le
  unfold Others
  by_cases he : er = 0
  · subst he
    have hKf : ∀ args wx, (callFunc 190 args).run Tryz.prog wx = .ok (.enter 190 args) wx := by
      intro args wx; simp [callFunc, go_sem, Tryz.func190]; rfl
    have D := fun w2 (hc2 : Cur w2 g base bs A c at_ 0) (hnb : Blk w2 w.heap.size 3 #[.int .i64 most]) (hob : Blk w2 (w.heap.size + 1) 3 #[.int .i64 0]) => read_ok w2 g base bs A c at_ hc2 hle 190 #[.pointer (some ⟨w.heap.size, 0, none⟩), .pointer (some ⟨w.heap.size + 1, 0, none⟩)]
      (fun k e2 w' => Kept (fun x => x ≠ w.heap.size + 1) w2 w' ∧ k = (limP most (bs.drop at_)).2.1 ∧ e2 = (limP most (bs.drop at_)).2.2 ∧ Blk w' (w.heap.size + 1) 3 #[.int .i64 (limP most (bs.drop at_)).1]) hKf
      (fun q => (intstep_any (w2.drewN q) g base w.heap.size (w.heap.size + 1) bs A c at_ most hle h8 hmost (hc2.drewN q) (hnb.drewN q) (hob.drewN q)).mono fun e w' ⟨k, e2, h1, h2, h3, h4⟩ => ⟨k, e2, h1, h2, h3, ⟨⟨h4.1.os, h4.1.tape, h4.1.output, h4.1.size, h4.1.block⟩, h4.2⟩⟩)
    have D := Lib.hid (D _ h2 hnb hob)
    have h8' : ∀ x ∈ bs.drop at_, x ≤ 255 := fun x hx => h8 x (List.mem_of_mem_drop hx)
    have hsp := limP_spec most (bs.drop at_) h8'
    rw [List.length_drop] at hsp
    have eV : intV most bs at_ 0 = (limP most (bs.drop at_)).1 := if_neg (by simp)
    have eA : intA most bs at_ 0 = at_ + (limP most (bs.drop at_)).2.1 := if_neg (by simp)
    have eE : intE most bs at_ 0 = (limP most (bs.drop at_)).2.2 := if_neg (by simp)
    rw [eV, eA, eE]
    generalize limP most (bs.drop at_) = R at *
    have HK := Lib.hid hk2
    have hgo : w.heap.size + 1 ≠ g := by omega
    have HSP := Lib.hid hsp
    clear hKf h2 hnb hob hk2 h8' hsp eV eA eE
    by_cases hR : R.2.2 = 0
    · have hfit : at_ + R.2.1 ≤ bs.length := by have := HSP.out.2.1; omega
      go_enter Tryz.func128, Tryz.ntmps128
      go_wp2_with fail
      refine D.out.mono ?_
      rintro e w4 ⟨k, e2, w3, ⟨hk3, hkk, hee, hblk⟩, hc3, hcase⟩
      rcases hcase with ⟨h0, _, _⟩ | ⟨_, rfl, rfl⟩
      · exact absurd (hee.trans hR) h0
      · have HK3 : Hid (Kept (fun x => x < w.heap.size ∧ x ≠ g) w w3) := HK.out.trans ⟨hk3.os, hk3.tape, hk3.output, hk3.size, fun x hx => hk3.block x (by omega)⟩
        have hB := hblk.far (fun e => hgo e) (p := ⟨g, 1, none⟩) (.int .i64 (at_ + k : Nat))
        have d0 := hB.cell 0
        simp only [List.getElem?_toArray, List.getElem?_cons_zero] at d0
        have HC := Lib.hid (hc3.setAt (at_ + k) (by omega))
        rw [hkk] at HC
        have HK4 : Hid (Kept (fun x => x < w.heap.size ∧ x ≠ g) w (w3.setCell ⟨g, 1, none⟩ (.int .i64 (at_ + k : Nat)))) := HK3.out.set (fun h => h.2 rfl) _
        rw [← hkk] at HC
        have HC2 : Hid (Cur (w3.setCell ⟨g, 1, none⟩ (.int .i64 (at_ + k : Nat))) g base bs A c (at_ + R.2.1) R.2.2) := by rw [hR, ← hkk]; exact HC.out
        generalize w3.setCell ⟨g, 1, none⟩ (.int .i64 (at_ + k : Nat)) = w5 at *
        clear hB hblk hc3 hk3 D HK3 HK hkk hee HC hR
        go_wp2_with fail
        go_ret
        exact ⟨rfl, HC2.out, HK4.out⟩
    · have hz := HSP.out.2.2.2.1 hR
      go_enter Tryz.func128, Tryz.ntmps128
      go_wp2_with fail
      refine D.out.mono ?_
      rintro e w4 ⟨k, e2, w3, ⟨hk3, hkk, hee, hblk⟩, hc3, hcase⟩
      rcases hcase with ⟨_, rfl, rfl⟩ | ⟨h0, _, _⟩
      · have HK3 : Hid (Kept (fun x => x < w.heap.size ∧ x ≠ g) w w3) := HK.out.trans ⟨hk3.os, hk3.tape, hk3.output, hk3.size, fun x hx => hk3.block x (by omega)⟩
        have HC2 : Hid (Cur (w3.setCell ⟨g, 2, none⟩ (.int .i64 e2)) g base bs A c (at_ + R.2.1) R.2.2) := by rw [hz.2, ← hee]; exact hc3.setErr e2
        have HK4 : Hid (Kept (fun x => x < w.heap.size ∧ x ≠ g) w (w3.setCell ⟨g, 2, none⟩ (.int .i64 e2))) := HK3.out.set (fun h => h.2 rfl) _
        generalize w3.setCell ⟨g, 2, none⟩ (.int .i64 e2) = w5 at *
        have HZ := Lib.hid hz.1
        clear hblk hc3 hk3 D HK3 HK hkk hee hR hz
        go_wp2_with fail
        go_ret
        exact ⟨by rw [HZ.out]; rfl, HC2.out, HK4.out⟩
      · exact absurd (hee.symm.trans h0) hR
  · have D := Lib.hid (read_err _ g base bs A c at_ er h2 he (.func (.func 190) #[] #[.pointer (some ⟨w.heap.size, 0, none⟩), .pointer (some ⟨w.heap.size + 1, 0, none⟩)]))
    have eV : intV most bs at_ er = 0 := if_pos he
    have eA : intA most bs at_ er = at_ := if_pos he
    have eE : intE most bs at_ er = er := if_pos he
    rw [eV, eA, eE]
    have HK := Lib.hid hk2
    have HC := Lib.hid h2
    clear h2 hnb hob hk2 he eV eA eE
    go_enter Tryz.func128, Tryz.ntmps128
    go_wp2_with fail
    refine D.out.mono ?_
    rintro e w4 ⟨rfl, rfl⟩
    go_wp2_with fail
    go_ret
    exact ⟨rfl, HC.out, HK.out⟩
end Go.Proofs.YtmgjgkdbagbleaaGreatDoor.Nums
namespace Go.Proofs.YtmgjgkdbagbleaaGreatDoor.Nums
open Go.RowKit Go.Proofs.YtmgjgkdbagbleaaGreatDoor.Mem Go.Proofs.YtmgjgkdbagbleaaGreatDoor.Own Go.Proofs.YtmgjgkdbagbleaaGreatDoor.Canon
theorem step_app {P : Program} {w : World} {ops : Array Oper} {o : Oper} {a : Act} {K : Act → World → Prop} {Q : Exit → Act → World → Prop} {E : Prop} (hgd : o.guard = none) (s x : Operand) (t : TypeId)
    (ho : o.op = .call { callee := .builtin .append, args := #[s, x], argTypes := #[t, t] })
    (base : Nat) (e : TypeId) (i : TypeInfo) (z : Value) (size bytes : Nat) (ht : P.underlying t = some (.slice e)) (hi : P.info? e = some i) (hz : i.zero = some z)
    (hsize : i.size = size) (hby : i.bytes = bytes) (hzs : z.cells.size = size) (hsz : 0 < size)
    (v : Value) (n : Nat) (xs : List Value) (hs : a.eval s = v) (hown : w.ownsRow base e size v n xs)
    (A : Option Addr) (m c : Nat) (news : List Value) (hx : a.eval x = .slice A m c) (hsrc : Src w A m c size news) (h1 : ∀ u ∈ news, u.oneCell' = true)
    (h63 : n + m ≤ maxLen) (hbytes : (n + m) * bytes ≤ 140737488355328) (hbase : base ≤ w.heap.size)
    (h : ∀ A' c' w', w'.ownsRow base e size (.slice A' (n + m) c') (n + m) (xs ++ news) → w.grownBy w' v.ownBlock → K (a.put o.dst (.slice A' (n + m) c')) w') :
    if Region.wanted o (yielded ops a.tmps) = true then Oper.wp P o a w K Q else E := by
  have hw : Region.wanted o (yielded ops a.tmps) = true := by simp [Region.wanted, hgd]
  rw [if_pos hw]
  obtain ⟨v', w', hr, h2, h3, h5⟩ := run_app (P := P) w base t o.type e i z size bytes ht hi hz hsize hby hzs hsz v n xs hown A m c news hsrc h1 h63 hbytes hbase
  obtain ⟨A', c', rfl⟩ := own_shape h2
  unfold Oper.wp execOp
  simp only [ho, resolve, invoke, builtin, Sem.run_bind, Sem.run_pure, Result.andThen_ok, List.map_toArray, List.map_cons, List.map_nil, hs, hx, hr]
  exact h A' c' w' h2 h3
section
variable {w w' : World} {g base : Nat} {bs : List Nat} {A : Option Addr} {c at_ : Nat} {er : Int}
end
end Go.Proofs.YtmgjgkdbagbleaaGreatDoor.Nums
namespace Go.Proofs.YtmgjgkdbagbleaaGreatDoor.Nums
open Go.RowKit Go.Proofs.YtmgjgkdbagbleaaGreatDoor.Mem Go.Proofs.YtmgjgkdbagbleaaGreatDoor.Own Go.Proofs.YtmgjgkdbagbleaaGreatDoor.Canon
def numV (bs : List Nat) (at_ : Nat) (er : Int) : Nat := if er ≠ 0 then 0 else (scanP (bs.drop at_) 0 0).1
def numA (bs : List Nat) (at_ : Nat) (er : Int) : Nat := if er ≠ 0 then at_ else at_ + (scanP (bs.drop at_) 0 0).2.1
def numE (bs : List Nat) (at_ : Nat) (er : Int) : Int := if er ≠ 0 then er else (scanP (bs.drop at_) 0 0).2.2
theorem numA_le {bs : List Nat} (h8 : ∀ x ∈ bs, x ≤ 255) {at_ : Nat} (er : Int) (h : at_ ≤ bs.length) : numA bs at_ er ≤ bs.length := by
  unfold numA
  split
  · exact h
  · have := (scanP_spec (bs.drop at_) 0 0 (fun x hx => h8 x (List.mem_of_mem_drop hx)) (by omega) (by simp)).2.1
    rw [List.length_drop] at this
    omega
end Go.Proofs.YtmgjgkdbagbleaaGreatDoor.Nums
