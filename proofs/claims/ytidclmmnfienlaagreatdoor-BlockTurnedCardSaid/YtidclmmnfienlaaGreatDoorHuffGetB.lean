/-
  The walks of bits' Reader: bit, number, Left, Skip, Peek, Pad, NewReader.
  The walks of huff's Coder.find, begins and Get.
  The walk of huff's Coder.Get.
-/
import Derived.Test.YtidclmmnfienlaaGreatDoorHuffRP
import Derived.Test.YtidclmmnfienlaaGreatDoorCoderC
import Derived.Test.YtidclmmnfienlaaGreatDoorOwnBase
import Derived.Test.YtidclmmnfienlaaGreatDoorCloneNum
import Derived.BigGuardPart
import Derived.BigQuiet
import Derived.Deep.QuietTactic
import Derived.Laws.Bits64b
import Derived.Laws.BitsLemmas

namespace Go.Proofs.YtidclmmnfienlaaGreatDoor.Huff
open Go.RowKit Go.Proofs.YtidclmmnfienlaaGreatDoor.Mem Go.Proofs.YtidclmmnfienlaaGreatDoor.Canon Go.Proofs.YtidclmmnfienlaaGreatDoor.Own

/-- A reader of the bits bs, at a place. -/
def Rd (w : World) (lo g : Nat) (bs : List Bool) (at_ : Nat) : Prop :=
  ∃ (A : Option Addr) (n c : Nat) (ls : List Nat), Blk w g 229 #[.slice A n c, .int .i64 ((8 * n : Nat) : Int), .int .i64 at_] ∧ RowIn w lo g A n 1 (numF .u8 ls) ∧ ls.length = n ∧ (∀ x ∈ ls, x ≤ 255) ∧ bs = rbits ls ∧ at_ ≤ 8 * n ∧ n ≤ 100000
theorem Rd.keep {w w' : World} {lo g at_ : Nat} {bs : List Bool} (h : Rd w lo g bs at_) (hk : ∀ b, lo ≤ b → b ≤ g → w'.heap[b]? = w.heap[b]?) (hlo : lo ≤ g) : Rd w' lo g bs at_ := by
  obtain ⟨A, n, c, ls, h1, h2, h3⟩ := h
  exact ⟨A, n, c, ls, (hk g hlo (Nat.le_refl _)).trans h1, h2.keep (fun p ha hb => World.cell?_of_block (hk p.block ha (by omega))), h3⟩
theorem Rd.drew {w : World} {lo g at_ : Nat} {bs : List Bool} (h : Rd w lo g bs at_) : Rd w.drew lo g bs at_ := h
theorem Rd.drewN {w : World} {lo g at_ : Nat} {bs : List Bool} (h : Rd w lo g bs at_) (q : Nat) : Rd (w.drewN q) lo g bs at_ := h
theorem Rd.moved {w : World} {lo g at_ k : Nat} {bs : List Bool} (h : Rd w lo g bs at_) (hk : at_ + k ≤ bs.length) : Rd (w.setCell ⟨g, 2, none⟩ (.int .i64 ((at_ : Int) + (k : Int)))) lo g bs (at_ + k) := by
  obtain ⟨A, n, c, ls, h1, h2, h3, h4, h5, h6, h7⟩ := h
  refine ⟨A, n, c, ls, ?_, h2.keep (fun p _ hb => World.cell?_of_block (Below.heap_setCell w _ _ _ (show p.block ≠ g by omega))), h3, h4, h5, ?_, h7⟩
  · have h := h1.set 2 (.int .i64 ((at_ : Int) + (k : Int)))
    simpa using h
  · rw [h5, rbits_length] at hk; omega
theorem Rd.lt {w : World} {lo g at_ : Nat} {bs : List Bool} (h : Rd w lo g bs at_) : g < w.heap.size := by
  obtain ⟨A, n, c, ls, h1, _⟩ := h
  exact h1.lt

theorem and_bit (y : Nat) (hy : y < 18446744073709551616) : bits .and .u64 (y : Int) 1 = ((y % 2 : Nat) : Int) := by
  have h := bits_and_u64_nat y 1 hy (by omega)
  rw [Nat.and_one_is_mod] at h
  exact h
theorem or_bit1 (x y : Nat) (hx : x < 9223372036854775808) (hy : y ≤ 1) : bits .or .u64 ((2 * x : Nat) : Int) (y : Int) = ((2 * x + y : Nat) : Int) := by
  rw [bits_or_u64_nat _ _ (by omega) (by omega)]
  congr 1
  have h := Nat.two_pow_add_eq_or_of_lt (b := y) (i := 1) (by omega) x
  rw [show 2 ^ 1 = 2 from rfl] at h
  exact h.symm

set_option maxRecDepth 100000 in
theorem bit_any (w : World) (g B : Nat) (A : Option Addr) (n c i : Nat) (ls : List Nat) (hn : ls.length = n) (hN : n ≤ 100000) (h8 : ∀ x ∈ ls, x ≤ 255) (hi : i < 8 * n) (hg : w.cell? ⟨g, 0, none⟩ = some (.slice A n c)) (ha : Row w B A n 1 (numF .u8 ls)) :
    Calls Tryz.prog 180 #[.pointer (some ⟨g, 0, none⟩), .int .i64 (i : Nat)] w fun e w' => e = .returned (.int .u64 (bit (rbits ls) i : Nat)) ∧ w = w' := by
  have hv := rbits_bit (ls := ls) (i := i) (by omega)
  obtain ⟨b, off, x, rfl, hb, hx, d0⟩ := num_cell ha hn (show i / 8 < n by omega)
  have hx255 := h8 x (List.mem_of_getElem? hx)
  have hxx : ls.getD (i / 8) 0 = x := by simp [List.getD_eq_getElem?_getD, hx]
  rw [hxx] at hv
  rw [hv]
  have x0 : (0 : Int) ≤ (i : Int) / 8 := by omega
  have x1 : (i : Int) / 8 < (n : Int) := by omega
  have x2 : (0 : Int) ≤ 7 - (i : Int) % 8 := by omega
  clear hv hxx hx h8 hn ha
  go_enter Tryz.func180, Tryz.ntmps180
  go_wp2_with fail
  go_ret
  refine ⟨?_, rfl⟩
  have e : ((x : Int) / 2 ^ (7 - i % 8)) = ((x / 2 ^ (7 - i % 8) : Nat) : Int) := by simp
  have hle := Nat.div_le_self x (2 ^ (7 - i % 8))
  show Ending.returned (.int .u64 (bits .and .u64 (IntKind.u64.wrap ((x : Int) / 2 ^ (7 - i % 8))) 1)) = _
  rw [e]
  generalize x / 2 ^ (7 - i % 8) = y at *
  rw [show IntKind.u64.wrap (y : Int) = (y : Int) by rw [IntKind.wrap_u64]; omega, and_bit y (by omega)]

set_option maxRecDepth 100000 in
theorem number_any (w : World) (g B : Nat) (A : Option Addr) (n c at_ m : Nat) (ls : List Nat) (hn : ls.length = n) (hN : n ≤ 100000) (h8 : ∀ x ∈ ls, x ≤ 255) (hat : at_ ≤ 8 * n) (hm : m ≤ 64) (hg : w.cell? ⟨g, 0, none⟩ = some (.slice A n c)) (hg1 : w.cell? ⟨g, 1, none⟩ = some (.int .i64 ((8 * n : Nat) : Int))) (ha : Row w B A n 1 (numF .u8 ls)) :
    Calls Tryz.prog 165 #[.pointer (some ⟨g, 0, none⟩), .int .i64 (at_ : Nat), .int .i64 (m : Nat)] w fun e w' => e = .returned (.int .u64 (accB (rbits ls) at_ m : Nat)) ∧ w = w' := by
  have C := Lib.hid (fun i h => bit_any w g B A n c i ls hn hN h8 h hg ha)
  have HL : Hid ((rbits ls).length = 8 * n) := by show _ = _; rw [rbits_length, hn]
  generalize rbits ls = bs at *
  generalize hz : 8 * n = z at *
  have hzb : z ≤ 800000 := by omega
  clear hn h8 ha hz
  go_enter Tryz.func165, Tryz.ntmps165
  go_wp2_with fail
  go_loopw [7, 8] (fun u j wr => ∃ p x : Nat, at_ ≤ p ∧ p ≤ at_ + m ∧ j = .int .i64 (p : Nat) ∧ u = .int .u64 x ∧ Hid (x = accB bs at_ (p - at_)) ∧ w = wr) (fun _ j _ => at_ + m - (intOf j).toNat)
  case atStart => exact ⟨at_, 0, by omega, by omega, rfl, rfl, by show 0 = _; rw [Nat.sub_self]; rfl, rfl⟩
  case round =>
    obtain ⟨p, x, hp1, hp2, rfl, rfl, hx, rfl⟩ := hrel
    by_cases hlt : p < at_ + m
    · have hxl := accB_lt bs at_ (p - at_)
      rw [← hx.out] at hxl
      have hx63 : x < 9223372036854775808 := Nat.lt_of_lt_of_le hxl (by have : 2 ^ (p - at_) ≤ 2 ^ 63 := Nat.pow_le_pow_right (by omega) (by omega); omega)
      have hstep : accB bs at_ (p + 1 - at_) = 2 * x + bit bs p := by
        rw [show p + 1 - at_ = (p - at_) + 1 by omega, accB, ← hx.out, show at_ + (p - at_) = p by omega]
      by_cases hpz : p < z
      · have hbl := bit_le bs p
        have C2 := Lib.hid (C.out p hpz)
        generalize bit bs p = y at *
        have HS := Lib.hid hstep
        clear hstep hx hxl
        go_wp2_with fail
        refine C2.out.mono ?_
        rintro e w1 ⟨rfl, rfl⟩
        go_wp2_with fail
        go_roundw
        case measure => go_light; simp [intOf]; omega
        case rel =>
          go_light
          have e : bits .or .u64 ((x : Int) * 2) (y : Int) = ((2 * x + y : Nat) : Int) := by
            rw [← or_bit1 x y hx63 hbl]
            congr 1
            omega
          exact ⟨p + 1, 2 * x + y, by omega, by omega, by go_num, by rw [e], HS.out.symm, trivial⟩
      · rw [bit_out (by rw [HL.out]; omega)] at hstep
        have HS := Lib.hid hstep
        clear hstep hx hxl
        go_wp2_with fail
        go_roundw
        case measure => go_light; simp [intOf]; omega
        case rel =>
          go_light
          exact ⟨p + 1, 2 * x, by omega, by omega, by go_num, by go_num, HS.out.symm, trivial⟩
    · obtain rfl : p = at_ + m := by omega
      go_wp2_with fail
      go_ret
      exact ⟨by rw [hx.out, Nat.add_sub_cancel_left]; rfl, rfl⟩

set_option maxRecDepth 100000 in
theorem left_any (w : World) (lo g : Nat) (bs : List Bool) (at_ : Nat) (hR : Rd w lo g bs at_) :
    Calls Tryz.prog 164 #[.pointer (some ⟨g, 0, none⟩)] w fun e w' => e = .returned (.int .i64 ((bs.length - at_ : Nat) : Int)) ∧ ∃ q, w' = w.drewN q := by
  obtain ⟨A, n, c, ls, h1, h2, h3, h4, h5, h6, h7⟩ := hR
  have hl : bs.length = 8 * n := by rw [h5, rbits_length, h3]
  rw [hl]
  have c1 := h1.cell 1
  have c2 := h1.cell 2
  simp only [List.getElem?_toArray, List.getElem?_cons_zero, List.getElem?_cons_succ] at c1 c2
  have hz : 8 * n ≤ 800000 := by omega
  generalize 8 * n = z at *
  have s1 : IntKind.i64.wrap ((z : Int) - (at_ : Int)) = ((z - at_ : Nat) : Int) := by rw [IntWalk.i64_in _ (by omega)]; omega
  clear h1 h2 h3 h4 h5 hl
  go_enter Tryz.func164, Tryz.ntmps164
  go_wp2_with fail
  go_quiet (fail)
  go_wp2_with fail
  go_ret
  exact ⟨rfl, _, rfl⟩
set_option maxRecDepth 100000 in
theorem left_nil (w : World) : Calls Tryz.prog 164 #[.pointer none] w fun e w' => e = .returned (.int .i64 0) ∧ w = w' := by
  go_enter Tryz.func164, Tryz.ntmps164
  go_wp2_with fail
  go_ret
  exact ⟨rfl, rfl⟩

set_option maxRecDepth 100000 in
theorem skip_any (w : World) (lo g : Nat) (bs : List Bool) (at_ k : Nat) (hk : k ≤ 100000) (hR : Rd w lo g bs at_) :
    Calls Tryz.prog 177 #[.pointer (some ⟨g, 0, none⟩), .int .i64 (k : Nat)] w fun e w' =>
      e = .returned (.int .i64 (if at_ + k ≤ bs.length then 0 else 1)) ∧ Rd w' lo g bs (if at_ + k ≤ bs.length then at_ + k else at_) ∧ Kept (fun x => x ≠ g) w w' := by
  have C := Lib.hid (left_any w lo g bs at_ hR)
  have HR := Lib.hid hR
  have hle : at_ ≤ bs.length ∧ bs.length ≤ 800000 := by
    obtain ⟨A, n, c, ls, h1, h2, h3, h4, h5, h6, h7⟩ := hR
    rw [h5, rbits_length, h3]
    omega
  have c2 : w.cell? ⟨g, 2, none⟩ = some (.int .i64 at_) := by
    obtain ⟨A, n, c, ls, h1, _⟩ := hR
    exact h1.cell 2
  have f2 : w.frozen? ⟨g, 2, none⟩ = false := by
    obtain ⟨A, n, c, ls, h1, _⟩ := hR
    exact h1.frozen 2
  obtain ⟨z, hz⟩ : ∃ z, z = bs.length := ⟨_, rfl⟩
  rw [← hz] at C hle ⊢
  have HZ := Lib.hid hz
  obtain ⟨hle1, hle2⟩ := hle
  clear hR hz
  by_cases hlt : at_ + k ≤ z
  · rw [if_pos hlt, if_pos hlt]
    have x1 : (k : Int) ≤ ((z - at_ : Nat) : Int) := by omega
    go_enter Tryz.func177, Tryz.ntmps177
    go_wp2_with fail
    refine C.out.mono ?_
    rintro e w1 ⟨rfl, q, rfl⟩
    go_wp2_with fail
    go_ret
    exact ⟨rfl, (HR.out.drewN q).moved (by rw [← HZ.out]; exact hlt), Kept.set (p := ⟨g, 2, none⟩) ((Kept.refl _ w).drewN q) (fun h => h rfl) _⟩
  · rw [if_neg hlt, if_neg hlt]
    have x1 : ¬ (k : Int) ≤ ((z - at_ : Nat) : Int) := by omega
    go_enter Tryz.func177, Tryz.ntmps177
    go_wp2_with fail
    refine C.out.mono ?_
    rintro e w1 ⟨rfl, q, rfl⟩
    go_wp2_with fail
    go_ret
    exact ⟨rfl, HR.out.drewN q, (Kept.refl _ w).drewN q⟩

set_option maxRecDepth 100000 in
theorem peek_any (w : World) (lo g : Nat) (bs : List Bool) (at_ m : Nat) (hm : m ≤ 64) (hR : Rd w lo g bs at_) :
    Calls Tryz.prog 175 #[.pointer (some ⟨g, 0, none⟩), .int .i64 (m : Nat)] w fun e w' =>
      e = .returned (.tuple #[.int .u64 (accB bs at_ m : Nat), .int .i64 ((min m (bs.length - at_) : Nat) : Int)]) ∧ ∃ q, w' = w.drewN q := by
  have C1 := Lib.hid (fun q => left_any (w.drewN q) lo g bs at_ (hR.drewN q))
  obtain ⟨A, n, c, ls, h1, h2, h3, h4, h5, h6, h7⟩ := hR
  have c0 := h1.cell 0
  have c1 := h1.cell 1
  have c2 := h1.cell 2
  simp only [List.getElem?_toArray, List.getElem?_cons_zero, List.getElem?_cons_succ] at c0 c1 c2
  have C2 := Lib.hid (fun q => (number_any (w.drewN q) g g A n c at_ m ls h3 h7 h4 h6 hm c0 c1 (h2.row.drewN q)).mono (fun e w' h => And.intro h.1 h.2.symm))
  rw [← h5] at C2
  generalize bs.length - at_ = d at *
  generalize accB bs at_ m = y at *
  clear h1 h2 h3 h4 h5 h6 c0 c1
  go_enter Tryz.func175, Tryz.ntmps175
  go_wp2_with fail
  go_quiet (first | (go_at_call 165; exact Calls.quiet_of_same (C2.out _)) | (go_at_call 164; exact Calls.quiet_of (C1.out _)))
  go_wp2_with fail
  all_goals
    go_ret2
    refine ⟨?_, _, rfl⟩
    first
    | (rw [show min m d = d by omega]; rfl)
    | (rw [show min m d = m by omega]; rfl)

theorem Rd.cellAt {w : World} {lo g at_ : Nat} {bs : List Bool} (h : Rd w lo g bs at_) : w.cell? ⟨g, 2, none⟩ = some (.int .i64 at_) := by
  obtain ⟨A, n, c, ls, h1, _⟩ := h
  exact h1.cell 2
theorem number_rd (w : World) (lo g : Nat) (bs : List Bool) (at_ m : Nat) (hm : m ≤ 64) (hR : Rd w lo g bs at_) (q : Nat) :
    Calls Tryz.prog 165 #[.pointer (some ⟨g, 0, none⟩), .int .i64 (at_ : Nat), .int .i64 (m : Nat)] (w.drewN q) fun e w' => e = .returned (.int .u64 (accB bs at_ m : Nat)) ∧ w' = w.drewN q := by
  obtain ⟨A, n, c, ls, h1, h2, h3, h4, h5, h6, h7⟩ := hR
  have c0 := h1.cell 0
  have c1 := h1.cell 1
  have h := (number_any (w.drewN q) g g A n c at_ m ls h3 h7 h4 h6 hm c0 c1 (h2.row.drewN q)).mono (fun e w' h => And.intro h.1 h.2.symm)
  rw [← h5] at h
  exact h

/-- The error of what is left. -/
def padE (bs : List Bool) (at_ : Nat) : Int := if bs.length - at_ ≥ 8 ∨ accB bs at_ (bs.length - at_) ≠ 0 then 2 else 0
set_option maxRecDepth 100000 in
theorem pad_any (w : World) (lo g : Nat) (bs : List Bool) (at_ : Nat) (hR : Rd w lo g bs at_) :
    Calls Tryz.prog 146 #[.pointer (some ⟨g, 0, none⟩)] w fun e w' => e = .returned (.int .i64 (padE bs at_)) ∧ ∃ q, w' = w.drewN q := by
  have C1 := Lib.hid (left_any w lo g bs at_ hR)
  have HR := Lib.hid hR
  clear hR
  by_cases h8 : bs.length - at_ < 8
  · by_cases h0 : accB bs at_ (bs.length - at_) = 0
    · have hE : padE bs at_ = 0 := by unfold padE; rw [if_neg (by omega)]
      rw [hE]
      clear hE
      have H0 := Lib.hid h0
      clear h0
      go_enter Tryz.func146, Tryz.ntmps146
      go_wp2_with fail
      refine C1.out.mono ?_
      rintro e w1 ⟨rfl, q1, hq1⟩
      have hR1 : Rd w1 lo g bs at_ := by rw [hq1]; exact HR.out.drewN q1
      have c2 := hR1.cellAt
      have HQ := Lib.hid hq1
      clear hq1
      have C2 := Lib.hid (number_rd w1 lo g bs at_ (bs.length - at_) (by omega) hR1)
      rw [H0.out] at C2
      clear hR1
      generalize bs.length - at_ = d at *
      have h8b : decide ((8 : Int) ≤ (d : Int)) = false := by simp; omega
      go_wp2_with fail
      go_quiet (first | (go_at_call 165; exact Calls.quiet_of_same (C2.out _)))
      go_wp2_with fail
      go_ret
      refine ⟨rfl, ?_⟩
      rw [HQ.out]
      exact ⟨_, World.drewN_drewN _ _ _⟩
    · have hE : padE bs at_ = 2 := by unfold padE; rw [if_pos (.inr h0)]
      rw [hE]
      clear hE
      go_enter Tryz.func146, Tryz.ntmps146
      go_wp2_with fail
      refine C1.out.mono ?_
      rintro e w1 ⟨rfl, q1, hq1⟩
      have hR1 : Rd w1 lo g bs at_ := by rw [hq1]; exact HR.out.drewN q1
      have c2 := hR1.cellAt
      have HQ := Lib.hid hq1
      clear hq1
      have C2 := Lib.hid (number_rd w1 lo g bs at_ (bs.length - at_) (by omega) hR1)
      clear hR1
      generalize bs.length - at_ = d at *
      generalize accB bs at_ d = y at *
      have hyb : ((y : Int) != 0) = true := bne_iff_ne.mpr (by omega)
      clear h0
      have h8b : decide ((8 : Int) ≤ (d : Int)) = false := by simp; omega
      go_wp2_with fail
      go_quiet (first | (go_at_call 165; exact Calls.quiet_of_same (C2.out _)))
      go_wp2_with fail
      go_ret
      refine ⟨rfl, ?_⟩
      rw [HQ.out]
      exact ⟨_, World.drewN_drewN _ _ _⟩
  · have hE : padE bs at_ = 2 := by unfold padE; rw [if_pos (.inl (by omega))]
    rw [hE]
    clear hE
    go_enter Tryz.func146, Tryz.ntmps146
    go_wp2_with fail
    refine C1.out.mono ?_
    rintro e w1 ⟨rfl, q1, hq1⟩
    have hR1 : Rd w1 lo g bs at_ := by rw [hq1]; exact HR.out.drewN q1
    have c2 := hR1.cellAt
    have HQ := Lib.hid hq1
    clear hq1
    clear hR1
    generalize bs.length - at_ = d at *
    have h8b : decide ((8 : Int) ≤ (d : Int)) = true := by simp; omega
    go_wp2_with fail
    go_quiet (fail)
    go_wp2_with fail
    go_ret
    refine ⟨rfl, ?_⟩
    rw [HQ.out]
    exact ⟨_, World.drewN_drewN _ _ _⟩

set_option maxRecDepth 100000 in
theorem newreader_any (w : World) (A : Option Addr) (n c : Nat) (ls : List Nat) (hn : ls.length = n) (hle : n ≤ 100000) (h8 : ∀ x ∈ ls, x ≤ 255) (hnil : A = none → n = 0 ∧ c = 0) (ha : Row w w.heap.size A n 1 (numF .u8 ls)) :
    Calls Tryz.prog 143 #[.slice A n c] w fun e w' => ∃ g, e = .returned (.pointer (some ⟨g, 0, none⟩)) ∧ Rd w' w.heap.size g (rbits ls) 0 ∧ w.heap.size ≤ g ∧ Below w.heap.size w w' := by
  have C := Lib.hid (clone_u8 w A n c ls hn hle hnil ha)
  have HN := Lib.hid hn
  have H8 := Lib.hid h8
  clear hn h8 hnil ha
  go_enter Tryz.func143, Tryz.ntmps143
  go_wp2_with fail
  refine C.out.mono ?_
  rintro e w1 ⟨v, rfl, hown, hb1⟩
  obtain ⟨A1, c1, rfl⟩ := own_shape hown
  have z1 := hb1.size
  have hrow := RowIn.of_own (f := numF .u8 ls) (s := 1) hown rfl (fun i j hi hj => by have e0 : j = 0 := (by omega); subst e0; exact numL_get (by rw [HN.out]; exact hi))
  have HROW := Lib.hid hrow
  clear hown hrow C
  go_wp2_with fail
  go_ret
  refine ⟨_, rfl, ⟨A1, n, c1, ls, ?_, ?_, HN.out, H8.out, rfl, by omega, hle⟩, z1, bel_alloc z1 hb1⟩
  · have h := Blk.made w1 229 #[.slice A1 n c1, .int .i64 ((8 * n : Nat) : Int), .int .i64 ((0 : Nat) : Int)]
    simpa using h
  · exact HROW.out.keep (fun p _ h => World.cell?_alloc_lt (w := w1) (a := p) (o := _) h)
end Go.Proofs.YtidclmmnfienlaaGreatDoor.Huff

namespace Go.Proofs.YtidclmmnfienlaaGreatDoor.Huff
open Go.RowKit Go.Proofs.YtidclmmnfienlaaGreatDoor.Mem Go.Proofs.YtidclmmnfienlaaGreatDoor.Canon Go.Proofs.YtidclmmnfienlaaGreatDoor.Own

theorem firstN_pos {ls : List Nat} {l : Nat} (h : 0 < cn ls l) : firstN ls ls.length l = fst ls l := by
  unfold firstN
  rw [List.take_length, if_neg (by omega)]
theorem firstN_zero {ls : List Nat} {l : Nat} (h : cn ls l = 0) : firstN ls ls.length l = 0 := by
  unfold firstN
  rw [List.take_length, if_pos h]
theorem firstN_le {ls : List Nat} (hok : okB ls = true) (l : Nat) (hl : l ≤ 15) : firstN ls ls.length l + cn ls l ≤ 65536 := by
  obtain ⟨h1, h2, h3⟩ := ok_parts hok
  have h4 := cn_le ls l
  by_cases h : 0 < cn ls l
  · rw [firstN_pos h]
    have h5 := fst_wsum ls l hl
    have h6 := wsum_mono ls (show l + 1 ≤ 16 by omega)
    have h7 : (fst ls l + cn ls l) * 1 ≤ (fst ls l + cn ls l) * 2 ^ (15 - l) := Nat.mul_le_mul_left _ (Nat.two_pow_pos _)
    omega
  · rw [firstN_zero (by omega)]
    omega

set_option maxRecDepth 100000 in
theorem find_hits (w : World) (lo B g : Nat) (ls : List Nat) (y l k s : Nat) (hok : okB ls = true) (hC : Coder w lo B g ls) (h0 : 0 < l) (hl : l ≤ 15) (hk : k < cn ls l) (hy : y = fst ls l + k) (hs : (symsOf ls l)[k]? = some s) :
    Calls Tryz.prog 176 #[.pointer (some ⟨g, 0, none⟩), .int .u64 (y : Nat), .int .i64 (l : Nat)] w fun e w' => e = .returned (.tuple #[.int .i64 s, .bool true]) ∧ w = w' := by
  have hF := firstN_le hok l hl
  have c1 := hC.first l (by omega)
  have c2 := hC.many l (by omega)
  obtain ⟨AS, cS, c3, hrow⟩ := hC.syms l (by omega)
  obtain ⟨b, off, rfl, _, hcell⟩ := hrow (by omega)
  have c4 := hcell k 0 hk (by omega)
  have hsy : symsN ls l = symsOf ls l := by unfold symsN; rw [if_neg (by omega)]
  rw [hsy] at c4
  have c5 : w.cell? ⟨b, off + k, none⟩ = some (.int .i64 s) := by
    simpa [numF, List.getD_eq_getElem?_getD, hs] using c4
  rw [firstN_pos (by omega)] at c1 hF
  generalize fst ls l = F at *
  generalize cn ls l = M at *
  have hsb : s ≤ 300 := by
    have h1 := (symsOf_get ls k s hs).1
    have h2 := (List.getElem?_eq_some_iff.1 h1).1
    have h3 := (ok_parts hok).1
    omega
  have x0 : (0 : Int) ≤ (l : Int) := by omega
  have x1 : (l : Int) < 16 := by omega
  have x2 : (0 : Int) ≤ (k : Int) := by omega
  have x3 : (k : Int) < (M : Int) := by omega
  have x4 : ¬ (k : Int) < 0 := by omega
  have s1 : IntKind.i64.wrap ((y : Int) - (F : Int)) = (k : Int) := by rw [IntWalk.i64_in _ (by omega)]; omega
  have s2 : IntKind.i64.wrap (y : Int) = (y : Int) := IntWalk.i64_in _ (by omega)
  clear hF hrow hcell c4 hsy hs hok hC hy
  go_enter Tryz.func176, Tryz.ntmps176
  go_wp2_with fail
  go_ret2
  exact ⟨rfl, rfl⟩

set_option maxRecDepth 100000 in
theorem find_none (w : World) (lo B g : Nat) (ls : List Nat) (y l : Nat) (hok : okB ls = true) (hC : Coder w lo B g ls) (h0 : 0 < l) (hl : l ≤ 15) (hyb : y ≤ 65535) (hy : y < fst ls l ∨ fst ls l + cn ls l ≤ y) :
    Calls Tryz.prog 176 #[.pointer (some ⟨g, 0, none⟩), .int .u64 (y : Nat), .int .i64 (l : Nat)] w fun e w' => e = .returned (.tuple #[.int .i64 0, .bool false]) ∧ w = w' := by
  have hF := firstN_le hok l hl
  have c1 := hC.first l (by omega)
  have c2 := hC.many l (by omega)
  have hcase : (y : Int) - (firstN ls ls.length l : Nat) < 0 ∨ ((cn ls l : Nat) : Int) ≤ (y : Int) - (firstN ls ls.length l : Nat) := by
    by_cases h : 0 < cn ls l
    · rw [firstN_pos h]; omega
    · rw [firstN_zero (by omega)]; omega
  generalize firstN ls ls.length l = F at *
  generalize cn ls l = M at *
  have x0 : (0 : Int) ≤ (l : Int) := by omega
  have x1 : (l : Int) < 16 := by omega
  have s2 : IntKind.i64.wrap (y : Int) = (y : Int) := IntWalk.i64_in _ (by omega)
  obtain ⟨z, hz⟩ : ∃ z : Int, z = (y : Int) - (F : Int) := ⟨_, rfl⟩
  have s1 : IntKind.i64.wrap ((y : Int) - (F : Int)) = z := by rw [IntWalk.i64_in _ (by omega), hz]
  rw [← hz] at hcase
  clear hok hC hy hF hz
  by_cases hneg : z < 0
  · clear hcase
    go_enter Tryz.func176, Tryz.ntmps176
    go_wp2_with fail
    go_ret2
    exact ⟨rfl, rfl⟩
  · have hge : (M : Int) ≤ z := by omega
    clear hcase
    go_enter Tryz.func176, Tryz.ntmps176
    go_wp2_with fail
    go_ret2
    exact ⟨rfl, rfl⟩

/-- Do words of k bits begin with these l bits? -/
def meets (ls : List Nat) (y l k : Nat) : Prop := 0 < cn ls k ∧ y * 2 ^ (k - l) < fst ls k + cn ls k ∧ fst ls k < y * 2 ^ (k - l) + 2 ^ (k - l)
instance (ls : List Nat) (y l k : Nat) : Decidable (meets ls y l k) := by unfold meets; infer_instance
def meetsAny (ls : List Nat) (y l : Nat) : Bool := (List.range 16).any fun k => decide (l < k ∧ meets ls y l k)
theorem meetsAny_of {ls : List Nat} {y l k : Nat} (h1 : l < k) (h2 : k ≤ 15) (h3 : meets ls y l k) : meetsAny ls y l = true := by
  unfold meetsAny
  rw [List.any_eq_true]
  exact ⟨k, List.mem_range.2 (by omega), by simpa using ⟨h1, h3⟩⟩
theorem meetsAny_none {ls : List Nat} {y l : Nat} (h : ∀ k, l < k → k < 16 → ¬ meets ls y l k) : meetsAny ls y l = false := by
  unfold meetsAny
  rw [List.any_eq_false]
  intro k hk
  have := List.mem_range.1 hk
  simp only [decide_eq_true_eq, not_and]
  exact fun h1 => h k h1 this
theorem meetsAny_begin {ls : List Nat} (hsm : ∀ x ∈ ls, x ≤ 15) (X there : Nat) : meetsAny ls (X / 2 ^ (15 - there)) there = (List.range ls.length).any (begin_ ls X there) := by
  cases hb : (List.range ls.length).any (begin_ ls X there)
  · refine meetsAny_none fun k h1 h2 h3 => ?_
    obtain ⟨s, hs, hc⟩ := begins_some h1 h3.1 h3.2.1 h3.2.2
    rw [List.any_eq_false] at hb
    have := hb s (List.mem_range.2 (List.getElem?_eq_some_iff.1 hs).1)
    exact this (begin_iff.2 ⟨k, hs, h1, hc.symm⟩)
  · rw [List.any_eq_true] at hb
    obtain ⟨s, _, hs⟩ := hb
    obtain ⟨k, hk, h1, hc⟩ := begin_iff.1 hs
    exact meetsAny_of h1 (hsm k (List.mem_of_getElem? hk)) (begins_none h1 hk hc.symm)

theorem wrap64_small (n : Nat) (h : n ≤ 65536) : wrap64 (n : Int) = (n : Int) := IntWalk.wrap64_in _ (by omega)
theorem pow_cast (d : Nat) : ((2 : Int) ^ d) = ((2 ^ d : Nat) : Int) := by simp
theorem shl_eq (y d : Nat) (h : y * 2 ^ d < 2 ^ 15) : wrap64 ((y : Int) * 2 ^ d) = ((y * 2 ^ d : Nat) : Int) := by
  rw [pow_cast, ← Int.natCast_mul]
  exact wrap64_small _ (by omega)
theorem shl_add (P d : Nat) (hP : P < 2 ^ 15) (h : 2 ^ d ≤ 2 ^ 15) : wrap64 ((P : Int) + wrap64 (2 ^ d)) = (P : Int) + ((2 ^ d : Nat) : Int) := by
  rw [pow_cast, wrap64_small _ (by omega), ← Int.natCast_add]
  exact wrap64_small _ (by omega)

set_option maxHeartbeats 1000000 in
set_option maxRecDepth 100000 in
theorem begins_any (w : World) (lo B g : Nat) (ls : List Nat) (y l : Nat) (hok : okB ls = true) (hC : Coder w lo B g ls) (hl : l < 15) (hy : y < 2 ^ l) :
    Calls Tryz.prog 178 #[.pointer (some ⟨g, 0, none⟩), .int .u64 (y : Nat), .int .i64 (l : Nat)] w fun e w' => e = .returned (.bool (meetsAny ls y l)) ∧ ∃ q, w' = w.drewN q := by
  have HC := Lib.hid hC
  have HOK := Lib.hid hok
  have HY := Lib.hid hy
  have hyb : y ≤ 32768 := by have : 2 ^ l ≤ 2 ^ 15 := Nat.pow_le_pow_right (by omega) (by omega); omega
  clear hok hC hy
  go_enter Tryz.func178, Tryz.ntmps178
  go_wp2_with fail
  go_loopw [7] (fun i wr => ∃ k : Nat, l < k ∧ k ≤ 16 ∧ i = .int .i64 k ∧ Hid (∀ j, l < j → j < k → ¬ meets ls y l j) ∧ Hid (∃ q, wr = w.drewN q)) (fun i _ => 16 - (intOf i).toNat)
  case atStart => exact ⟨l + 1, by omega, by omega, by go_num, (fun j h1 h2 => by omega), ⟨0, rfl⟩⟩
  case round =>
    obtain ⟨k, hk1, hk2, rfl, hno, hdr⟩ := hrel
    by_cases hlt : k < 16
    · have hC2 : Coder wr lo B g ls := by obtain ⟨q, hq⟩ := hdr.out; rw [hq]; exact HC.out.keep (fun _ _ _ => rfl)
      have c1 := hC2.first k hlt
      have c2 := hC2.many k hlt
      have hF := firstN_le HOK.out k (by omega)
      have hpow : 2 ^ (k - l) ≤ 2 ^ 15 := Nat.pow_le_pow_right (by omega) (by omega)
      have hsh : y * 2 ^ (k - l) < 2 ^ 15 := by
        have h1 : y * 2 ^ (k - l) < 2 ^ l * 2 ^ (k - l) := Nat.mul_lt_mul_of_pos_right HY.out (Nat.two_pow_pos _)
        rw [← Nat.pow_add, show l + (k - l) = k by omega] at h1
        have h2 : 2 ^ k ≤ 2 ^ 15 := Nat.pow_le_pow_right (by omega) (by omega)
        omega
      have hmt : meets ls y l k ↔ 0 < cn ls k ∧ y * 2 ^ (k - l) < firstN ls ls.length k + cn ls k ∧ firstN ls ls.length k < y * 2 ^ (k - l) + 2 ^ (k - l) := by
        unfold meets
        by_cases h : 0 < cn ls k
        · rw [firstN_pos h]
        · constructor
          · intro h1; exact absurd h1.1 h
          · intro h1; exact absurd h1.1 h
      have x0 : (0 : Int) ≤ (k : Int) := by omega
      have x1 : (k : Int) < 16 := by omega
      have x2 : (0 : Int) ≤ (k : Int) - (l : Int) := by omega
      go_upto_region 5 with fail
      obtain ⟨D, hD⟩ : ∃ D, D = 2 ^ (k - l) := ⟨_, rfl⟩
      obtain ⟨P, hP⟩ : ∃ P, P = y * D := ⟨_, rfl⟩
      rw [← hD] at hpow hsh hmt
      rw [← hP] at hsh hmt
      generalize firstN ls ls.length k = F at *
      generalize cn ls k = M at *
      have e := shl_eq y (k - l) (by rw [← hD, ← hP]; exact hsh)
      rw [← hD, ← hP] at e
      have e2 := shl_add P (k - l) hsh (by rw [← hD]; exact hpow)
      rw [← hD] at e2
      rw [e]
      clear e
      have s1 : IntKind.i64.wrap ((F : Int) + (M : Int)) = (F : Int) + (M : Int) := IntWalk.i64_in _ (by omega)
      have HMT := Lib.hid hmt
      clear hP hC2 hmt
      by_cases hM : 0 < M
      · by_cases h1 : P < F + M
        · have g1 : decide ((P : Int) < (F : Int) + (M : Int)) = true := by simp; omega
          by_cases h2 : F < P + D
          · have g2 : decide ((F : Int) < wrap64 ((P : Int) + wrap64 (2 ^ (k - l)))) = true := by rw [e2]; simp; omega
            have HA := Lib.hid (meetsAny_of hk1 (by omega) (HMT.out.2 ⟨hM, h1, h2⟩))
            clear hD e2 h1 h2
            go_quiet (fail)
            go_wp2_with fail
            go_ret
            obtain ⟨q, rfl⟩ := hdr.out
            exact ⟨by rw [HA.out]; rfl, _, World.drewN_drewN _ _ _⟩
          · have g2 : decide ((F : Int) < wrap64 ((P : Int) + wrap64 (2 ^ (k - l)))) = false := by rw [e2]; simp; omega
            have hnm : ¬ meets ls y l k := fun h => h2 (HMT.out.1 h).2.2
            have hno2 : ∀ j, l < j → j < k + 1 → ¬ meets ls y l j := by
              intro j hj1 hj2
              by_cases hjk : j = k
              · rw [hjk]; exact hnm
              · exact hno.out j hj1 (by omega)
            have HNO := Lib.hid hno2
            clear hD e2 h1 h2 hnm hno2 hno HMT
            go_quiet (fail)
            go_wp2_with fail
            go_roundw
            case measure => go_light; simp [intOf]; omega
            case rel =>
              go_light
              refine ⟨k + 1, by omega, by omega, by go_num, HNO.out, ?_⟩
              obtain ⟨q, rfl⟩ := hdr.out
              exact ⟨_, World.drewN_drewN _ _ _⟩
        · have g1 : decide ((P : Int) < (F : Int) + (M : Int)) = false := by simp; omega
          have hnm : ¬ meets ls y l k := fun h => h1 (HMT.out.1 h).2.1
          have h2 := 0
          have hno2 : ∀ j, l < j → j < k + 1 → ¬ meets ls y l j := by
            intro j hj1 hj2
            by_cases hjk : j = k
            · rw [hjk]; exact hnm
            · exact hno.out j hj1 (by omega)
          have HNO := Lib.hid hno2
          clear hD e2 h1 h2 hnm hno2 hno HMT
          go_quiet (fail)
          go_wp2_with fail
          go_roundw
          case measure => go_light; simp [intOf]; omega
          case rel =>
            go_light
            refine ⟨k + 1, by omega, by omega, by go_num, HNO.out, ?_⟩
            obtain ⟨q, rfl⟩ := hdr.out
            exact ⟨_, World.drewN_drewN _ _ _⟩
      · have hM0 : M = 0 := by omega
        subst hM0
        have hnm : ¬ meets ls y l k := fun h => hM (HMT.out.1 h).1
        have h1 := 0
        have h2 := 0
        have hno2 : ∀ j, l < j → j < k + 1 → ¬ meets ls y l j := by
          intro j hj1 hj2
          by_cases hjk : j = k
          · rw [hjk]; exact hnm
          · exact hno.out j hj1 (by omega)
        have HNO := Lib.hid hno2
        clear hD e2 h1 h2 hnm hno2 hno HMT
        go_quiet (fail)
        go_wp2_with fail
        go_roundw
        case measure => go_light; simp [intOf]; omega
        case rel =>
          go_light
          refine ⟨k + 1, by omega, by omega, by go_num, HNO.out, ?_⟩
          obtain ⟨q, rfl⟩ := hdr.out
          exact ⟨_, World.drewN_drewN _ _ _⟩
    · obtain rfl : k = 16 := by omega
      have HA := Lib.hid (meetsAny_none hno.out)
      go_wp2_with fail
      go_ret
      exact ⟨by rw [HA.out]; rfl, hdr.out⟩
end Go.Proofs.YtidclmmnfienlaaGreatDoor.Huff

namespace Go.Proofs.YtidclmmnfienlaaGreatDoor.Huff
open Go.RowKit Go.Proofs.YtidclmmnfienlaaGreatDoor.Mem Go.Proofs.YtidclmmnfienlaaGreatDoor.Canon Go.Proofs.YtidclmmnfienlaaGreatDoor.Own

theorem div_cast (X d : Nat) : ((X / 2 ^ d : Nat) : Int) = (X : Int) / 2 ^ d := by simp
theorem head_lt (bs : List Bool) (at_ : Nat) : head bs at_ < 32768 := accB_lt bs at_ 15
theorem head_div_lt (X l : Nat) (hX : X < 32768) (hl : l ≤ 15) : X / 2 ^ (15 - l) < 2 ^ l := by
  apply Nat.div_lt_of_lt_mul
  rw [← Nat.pow_add, show 15 - l + l = 15 by omega]
  omega

set_option maxRecDepth 100000 in
theorem get_nil (w : World) (u : Value) : Calls Tryz.prog 162 #[.pointer none, u] w fun e w' => e = .returned (.tuple #[.int .i64 (-1), .int .i64 7]) ∧ w = w' := by
  go_enter Tryz.func162, Tryz.ntmps162
  go_wp2_with fail
  go_ret2
  exact ⟨rfl, rfl⟩

def GetPost (ls : List Nat) (bs : List Bool) (at_ lo g : Nat) (w : World) (e : Ending) (w' : World) : Prop :=
  e = .returned (.tuple #[.int .i64 (getR ls (head bs at_) (there bs at_)).1, .int .i64 (getR ls (head bs at_) (there bs at_)).2.1]) ∧
    Rd w' lo g bs (at_ + (getR ls (head bs at_) (there bs at_)).2.2) ∧ Kept (fun x => x ≠ g) w w'

set_option maxHeartbeats 1000000 in
set_option maxRecDepth 100000 in
theorem get_any (w : World) (clo cB gc lo g : Nat) (ls : List Nat) (bs : List Bool) (at_ : Nat) (hok : okB ls = true) (hC : Coder w clo cB gc ls) (hR : Rd w lo g bs at_) :
    Calls Tryz.prog 162 #[.pointer (some ⟨gc, 0, none⟩), .pointer (some ⟨g, 0, none⟩)] w (GetPost ls bs at_ lo g w) := by
  have C1 := Lib.hid (peek_any w lo g bs at_ 15 (by omega) hR)
  have hX := head_lt bs at_
  have hth : there bs at_ ≤ 15 := by unfold there; omega
  have hth2 : there bs at_ ≤ bs.length - at_ := by unfold there; omega
  have hlen : at_ ≤ bs.length := by
    obtain ⟨A, n, c, l, h1, h2, h3, h4, h5, h6, h7⟩ := hR
    rw [h5, rbits_length, h3]; exact h6
  change Hid (Calls _ _ _ _ fun e w' => e = .returned (.tuple #[.int .u64 (head bs at_ : Nat), .int .i64 (there bs at_ : Nat)]) ∧ ∃ q, w' = w.drewN q) at C1
  unfold GetPost
  generalize head bs at_ = X at *
  generalize there bs at_ = th at *
  have HC := Lib.hid hC
  have HR := Lib.hid hR
  have HOK := Lib.hid hok
  clear hC hR hok
  go_enter Tryz.func162, Tryz.ntmps162
  go_wp2_with fail
  refine C1.out.mono ?_
  rintro e w1 ⟨rfl, q1, hq1⟩
  have HC1 : Hid (Coder w1 clo cB gc ls) := by show Coder w1 clo cB gc ls; rw [hq1]; exact HC.out.keep (fun _ _ _ => rfl)
  have HR1 : Hid (Rd w1 lo g bs at_) := by show Rd w1 lo g bs at_; rw [hq1]; exact HR.out
  have HK1 : Hid (Kept (fun x => x ≠ g) w w1) := by show Kept _ w w1; rw [hq1]; exact (Kept.refl _ w).drewN q1
  clear hq1 C1
  go_wp2_with fail
  go_loopw [8] (fun i wr => ∃ l : Nat, 1 ≤ l ∧ l ≤ th + 1 ∧ i = .int .i64 l ∧ Hid (∀ s, hit ls X (l - 1) s = false) ∧ w1 = wr) (fun i _ => 17 - (intOf i).toNat)
  case atStart => exact ⟨1, by omega, by omega, rfl, no_hit_zero ls X, rfl⟩
  case round =>
    obtain ⟨l, hl1, hl2, rfl, hno, rfl⟩ := hrel
    by_cases hlt : l ≤ th
    · by_cases hhit : ∃ k, k < cn ls l ∧ X / 2 ^ (15 - l) = fst ls l + k
      · obtain ⟨k, hk, hy⟩ := hhit
        obtain ⟨s, hs1, hs2, hs3⟩ := find_hit (by omega) hk hy
        have C2 := find_hits w1 clo cB gc ls _ l k s HOK.out HC1.out (by omega) (by omega) hk hy hs1
        rw [div_cast] at C2
        have C2 := Lib.hid C2
        have C3 := skip_any w1 lo g bs at_ l (by omega) HR1.out
        rw [if_pos (by omega), if_pos (by omega)] at C3
        have C3 := Lib.hid C3
        have HG := Lib.hid (getR_hit HOK.out hs2 (hit_mono hlt hs3))
        clear hk hy hs1 hs2 hs3 hno
        go_wp2_with fail
        refine C2.out.mono ?_
        rintro e w2 ⟨rfl, rfl⟩
        go_wp2_with fail
        refine C3.out.mono ?_
        rintro e w3 ⟨rfl, hR3, hk3⟩
        go_wp2_with fail
        go_ret2
        rw [HG.out]
        exact ⟨rfl, hR3, HK1.out.trans hk3⟩
      · have hy : X / 2 ^ (15 - l) < fst ls l ∨ fst ls l + cn ls l ≤ X / 2 ^ (15 - l) := by
          by_cases h : X / 2 ^ (15 - l) < fst ls l
          · exact .inl h
          · refine .inr (Nat.le_of_not_lt fun h2 => hhit ⟨X / 2 ^ (15 - l) - fst ls l, by omega, by omega⟩)
        have hyl := Nat.div_le_self X (2 ^ (15 - l))
        have C2 := find_none w1 clo cB gc ls (X / 2 ^ (15 - l)) l HOK.out HC1.out (by omega) (by omega) (by omega) hy
        rw [div_cast] at C2
        have C2 := Lib.hid C2
        have hno2 : ∀ s, hit ls X l s = false := by
          obtain ⟨j, rfl⟩ : ∃ j, l = j + 1 := ⟨l - 1, by omega⟩
          exact no_hit_succ hno.out hy
        have HNO := Lib.hid hno2
        clear hhit hy hyl hno hno2
        go_wp2_with fail
        refine C2.out.mono ?_
        rintro e w2 ⟨rfl, rfl⟩
        go_wp2_with fail
        go_roundw
        case measure => go_light; simp [intOf]; omega
        case rel =>
          go_light
          exact ⟨l + 1, by omega, by omega, by go_num, HNO.out, trivial⟩
    · have hle : l - 1 = th := by omega
      have hno2 := hno.out
      rw [hle] at hno2
      have hG := getR_none hno2
      obtain ⟨_, hsm, _⟩ := ok_parts HOK.out
      rw [← meetsAny_begin hsm] at hG
      have HG := Lib.hid hG
      by_cases h15 : th < 15
      · have C2 := begins_any w1 clo cB gc ls (X / 2 ^ (15 - th)) th HOK.out HC1.out h15 (head_div_lt X th hX hth)
        rw [div_cast] at C2
        have C2 := Lib.hid C2
        have x1 : (th : Int) < 15 := by omega
        cases hma : meetsAny ls (X / 2 ^ (15 - th)) th
        · rw [hma] at C2 HG
          clear hle hno hno2 hG hsm hma
          go_wp2_with fail
          refine C2.out.mono ?_
          rintro e w2 ⟨rfl, q2, rfl⟩
          go_wp2_with fail
          go_ret2
          rw [HG.out]
          exact ⟨rfl, HR1.out.drewN q2, HK1.out.drewN q2⟩
        · rw [hma] at C2 HG
          clear hle hno hno2 hG hsm hma
          go_wp2_with fail
          refine C2.out.mono ?_
          rintro e w2 ⟨rfl, q2, rfl⟩
          go_wp2_with fail
          go_ret2
          rw [HG.out]
          exact ⟨rfl, HR1.out.drewN q2, HK1.out.drewN q2⟩
      · have hma : meetsAny ls (X / 2 ^ (15 - th)) th = false := meetsAny_none fun k h1 h2 => by omega
        rw [hma] at HG
        clear hle hno hno2 hG hsm hma
        go_wp2_with fail
        go_ret2
        rw [HG.out]
        exact ⟨rfl, HR1.out, HK1.out⟩

set_option maxRecDepth 100000 in
theorem peek_nil (w : World) (m : Nat) (_hm : m ≤ 64) : Calls Tryz.prog 175 #[.pointer none, .int .i64 (m : Nat)] w fun e w' => e = .returned (.tuple #[.int .u64 0, .int .i64 0]) ∧ w = w' := by
  go_enter Tryz.func175, Tryz.ntmps175
  go_wp2_with fail
  go_ret2
  exact ⟨rfl, rfl⟩
set_option maxRecDepth 100000 in
theorem get_nobody (w : World) (clo cB gc : Nat) (ls : List Nat) (hok : okB ls = true) (hm : meetsAny ls 0 0 = true) (hC : Coder w clo cB gc ls) :
    Calls Tryz.prog 162 #[.pointer (some ⟨gc, 0, none⟩), .pointer none] w fun e w' => e = .returned (.tuple #[.int .i64 (-1), .int .i64 1]) ∧ ∃ q, w' = w.drewN q := by
  have C1 := Lib.hid (peek_nil w 15 (by omega))
  have C2 := begins_any w clo cB gc ls 0 0 hok hC (by omega) (by omega)
  rw [hm] at C2
  have C2 := Lib.hid C2
  clear hok hm hC
  go_enter Tryz.func162, Tryz.ntmps162
  go_wp2_with fail
  refine C1.out.mono ?_
  rintro e w1 ⟨rfl, rfl⟩
  go_wp2_with fail
  go_loopw [8] (fun i wr => i = .int .i64 1 ∧ w = wr) (fun i _ => 17 - (intOf i).toNat)
  case atStart => exact ⟨rfl, rfl⟩
  case round =>
    obtain ⟨rfl, rfl⟩ := hrel
    go_wp2_with fail
    refine C2.out.mono ?_
    rintro e w2 ⟨rfl, q2, rfl⟩
    go_wp2_with fail
    go_ret2
    exact ⟨rfl, _, rfl⟩
end Go.Proofs.YtidclmmnfienlaaGreatDoor.Huff
