/-
  The walks of bits' Reader: bit, number, Left, Skip, Peek, Pad, NewReader.
-/
import Derived.Test.YtloakdiioaodaaaDoorHuffRP
import Derived.Test.YtloakdiioaodaaaDoorCoderC
import Derived.Test.YtloakdiioaodaaaDoorOwnBase
import Derived.Test.YtloakdiioaodaaaDoorCloneNum
import Derived.BigGuardPart
import Derived.BigQuiet
import Derived.Deep.QuietTactic
import Derived.Laws.Bits64b
import Derived.Laws.BitsLemmas
namespace Go.Proofs.YtloakdiioaodaaaDoor.Huff
open Go.RowKit Go.Proofs.YtloakdiioaodaaaDoor.Mem Go.Proofs.YtloakdiioaodaaaDoor.Canon Go.Proofs.YtloakdiioaodaaaDoor.Own

/-- A reader of the bits bs, at a place. -/
def Rd (w : World) (lo g : Nat) (bs : List Bool) (at_ : Nat) : Prop :=
  ∃ (A : Option Addr) (n c : Nat) (ls : List Nat), Blk w g 167 #[.slice A n c, .int .i64 ((8 * n : Nat) : Int), .int .i64 at_] ∧ RowIn w lo g A n 1 (numF .u8 ls) ∧ ls.length = n ∧ (∀ x ∈ ls, x ≤ 255) ∧ bs = rbits ls ∧ at_ ≤ 8 * n ∧ n ≤ 100000
theorem Rd.keep {w w' : World} {lo g at_ : Nat} {bs : List Bool} (h : Rd w lo g bs at_) (hk : ∀ b, lo ≤ b → b ≤ g → w'.heap[b]? = w.heap[b]?) (hlo : lo ≤ g) : Rd w' lo g bs at_ := by
  obtain ⟨A, n, c, ls, h1, h2, h3⟩ := h
  exact ⟨A, n, c, ls, (hk g hlo (Nat.le_refl _)).trans h1, h2.keep (fun p ha hb => World.cell?_of_block (hk p.block ha (by omega))), h3⟩
theorem Rd.drew {w : World} {lo g at_ : Nat} {bs : List Bool} (h : Rd w lo g bs at_) : Rd w.drew lo g bs at_ := h
theorem Rd.drewN {w : World} {lo g at_ : Nat} {bs : List Bool} (h : Rd w lo g bs at_) (q : Nat) : Rd (w.drewN q) lo g bs at_ := h
theorem Rd.moved {w : World} {lo g at_ k : Nat} {bs : List Bool} (h : Rd w lo g bs at_) (hk : at_ + k ≤ bs.length) : Rd (w.setCell ⟨g, 2, none⟩ (.int .i64 ((at_ : Int) + (k : Int)))) lo g bs (at_ + k) := by
  obtain ⟨A, n, c, ls, h1, h2, h3, h4, h5, h6, h7⟩ := h
  refine ⟨A, n, c, ls, ?_, h2.keep (fun p _ hb => World.cell?_of_block (Below.heap_setCell w _ _ _ (show p.block ≠ g by omega))), h3, h4, h5, ?_, h7⟩
  · have h := h1.set 2 (.int .i64 ((at_ : Int) + (k : Int)))
    simpa using h
  · rw [h5, rbits_length] at hk; omega
theorem Rd.lt {w : World} {lo g at_ : Nat} {bs : List Bool} (h : Rd w lo g bs at_) : g < w.heap.size := by
  obtain ⟨A, n, c, ls, h1, _⟩ := h
  exact h1.lt

theorem and_bit (y : Nat) (hy : y < 18446744073709551616) : bits .and .u64 (y : Int) 1 = ((y % 2 : Nat) : Int) := by
  have h := bits_and_u64_nat y 1 hy (by omega)
  rw [Nat.and_one_is_mod] at h
  exact h
theorem or_bit1 (x y : Nat) (hx : x < 9223372036854775808) (hy : y ≤ 1) : bits .or .u64 ((2 * x : Nat) : Int) (y : Int) = ((2 * x + y : Nat) : Int) := by
  rw [bits_or_u64_nat _ _ (by omega) (by omega)]
  congr 1
  have h := Nat.two_pow_add_eq_or_of_lt (b := y) (i := 1) (by omega) x
  rw [show 2 ^ 1 = 2 from rfl] at h
  exact h.symm

set_option maxRecDepth 100000 in
theorem bit_any (w : World) (g B : Nat) (A : Option Addr) (n c i : Nat) (ls : List Nat) (hn : ls.length = n) (hN : n ≤ 100000) (h8 : ∀ x ∈ ls, x ≤ 255) (hi : i < 8 * n) (hg : w.cell? ⟨g, 0, none⟩ = some (.slice A n c)) (ha : Row w B A n 1 (numF .u8 ls)) :
    Calls Tryd.prog 111 #[.pointer (some ⟨g, 0, none⟩), .int .i64 (i : Nat)] w fun e w' => e = .returned (.int .u64 (bit (rbits ls) i : Nat)) ∧ w = w' := by
  have hv := rbits_bit (ls := ls) (i := i) (by omega)
  obtain ⟨b, off, x, rfl, hb, hx, d0⟩ := num_cell ha hn (show i / 8 < n by omega)
  have hx255 := h8 x (List.mem_of_getElem? hx)
  have hxx : ls.getD (i / 8) 0 = x := by simp [List.getD_eq_getElem?_getD, hx]
  rw [hxx] at hv
  rw [hv]
  have x0 : (0 : Int) ≤ (i : Int) / 8 := by omega
  have x1 : (i : Int) / 8 < (n : Int) := by omega
  have x2 : (0 : Int) ≤ 7 - (i : Int) % 8 := by omega
  clear hv hxx hx h8 hn ha
  go_enter Tryd.func111, Tryd.ntmps111
  go_wp2_with fail
  go_ret
  refine ⟨?_, rfl⟩
  have e : ((x : Int) / 2 ^ (7 - i % 8)) = ((x / 2 ^ (7 - i % 8) : Nat) : Int) := by simp
  have hle := Nat.div_le_self x (2 ^ (7 - i % 8))
  show Ending.returned (.int .u64 (bits .and .u64 (IntKind.u64.wrap ((x : Int) / 2 ^ (7 - i % 8))) 1)) = _
  rw [e]
  generalize x / 2 ^ (7 - i % 8) = y at *
  rw [show IntKind.u64.wrap (y : Int) = (y : Int) by rw [IntKind.wrap_u64]; omega, and_bit y (by omega)]

set_option maxRecDepth 100000 in
theorem number_any (w : World) (g B : Nat) (A : Option Addr) (n c at_ m : Nat) (ls : List Nat) (hn : ls.length = n) (hN : n ≤ 100000) (h8 : ∀ x ∈ ls, x ≤ 255) (hat : at_ ≤ 8 * n) (hm : m ≤ 64) (hg : w.cell? ⟨g, 0, none⟩ = some (.slice A n c)) (hg1 : w.cell? ⟨g, 1, none⟩ = some (.int .i64 ((8 * n : Nat) : Int))) (ha : Row w B A n 1 (numF .u8 ls)) :
    Calls Tryd.prog 98 #[.pointer (some ⟨g, 0, none⟩), .int .i64 (at_ : Nat), .int .i64 (m : Nat)] w fun e w' => e = .returned (.int .u64 (accB (rbits ls) at_ m : Nat)) ∧ w = w' := by
  have C := Lib.hid (fun i h => bit_any w g B A n c i ls hn hN h8 h hg ha)
  have HL : Hid ((rbits ls).length = 8 * n) := by show _ = _; rw [rbits_length, hn]
  generalize rbits ls = bs at *
  generalize hz : 8 * n = z at *
  have hzb : z ≤ 800000 := by omega
  clear hn h8 ha hz
  go_enter Tryd.func98, Tryd.ntmps98
  go_wp2_with fail
  go_loopw [7, 8] (fun u j wr => ∃ p x : Nat, at_ ≤ p ∧ p ≤ at_ + m ∧ j = .int .i64 (p : Nat) ∧ u = .int .u64 x ∧ Hid (x = accB bs at_ (p - at_)) ∧ w = wr) (fun _ j _ => at_ + m - (intOf j).toNat)
  case atStart => exact ⟨at_, 0, by omega, by omega, rfl, rfl, by show 0 = _; rw [Nat.sub_self]; rfl, rfl⟩
  case round =>
    obtain ⟨p, x, hp1, hp2, rfl, rfl, hx, rfl⟩ := hrel
    by_cases hlt : p < at_ + m
    · have hxl := accB_lt bs at_ (p - at_)
      rw [← hx.out] at hxl
      have hx63 : x < 9223372036854775808 := Nat.lt_of_lt_of_le hxl (by have : 2 ^ (p - at_) ≤ 2 ^ 63 := Nat.pow_le_pow_right (by omega) (by omega); omega)
      have hstep : accB bs at_ (p + 1 - at_) = 2 * x + bit bs p := by
        rw [show p + 1 - at_ = (p - at_) + 1 by omega, accB, ← hx.out, show at_ + (p - at_) = p by omega]
      by_cases hpz : p < z
      · have hbl := bit_le bs p
        have C2 := Lib.hid (C.out p hpz)
        generalize bit bs p = y at *
        have HS := Lib.hid hstep
        clear hstep hx hxl
        go_wp2_with fail
        refine C2.out.mono ?_
        rintro e w1 ⟨rfl, rfl⟩
        go_wp2_with fail
        go_roundw
        case measure => go_light; simp [intOf]; omega
        case rel =>
          go_light
          have e : bits .or .u64 ((x : Int) * 2) (y : Int) = ((2 * x + y : Nat) : Int) := by
            rw [← or_bit1 x y hx63 hbl]
            congr 1
            omega
          exact ⟨p + 1, 2 * x + y, by omega, by omega, by go_num, by rw [e], HS.out.symm, trivial⟩
      · rw [bit_out (by rw [HL.out]; omega)] at hstep
        have HS := Lib.hid hstep
        clear hstep hx hxl
        go_wp2_with fail
        go_roundw
        case measure => go_light; simp [intOf]; omega
        case rel =>
          go_light
          exact ⟨p + 1, 2 * x, by omega, by omega, by go_num, by go_num, HS.out.symm, trivial⟩
    · obtain rfl : p = at_ + m := by omega
      go_wp2_with fail
      go_ret
      exact ⟨by rw [hx.out, Nat.add_sub_cancel_left]; rfl, rfl⟩

set_option maxRecDepth 100000 in
theorem left_any (w : World) (lo g : Nat) (bs : List Bool) (at_ : Nat) (hR : Rd w lo g bs at_) :
    Calls Tryd.prog 97 #[.pointer (some ⟨g, 0, none⟩)] w fun e w' => e = .returned (.int .i64 ((bs.length - at_ : Nat) : Int)) ∧ ∃ q, w' = w.drewN q := by
  obtain ⟨A, n, c, ls, h1, h2, h3, h4, h5, h6, h7⟩ := hR
  have hl : bs.length = 8 * n := by rw [h5, rbits_length, h3]
  rw [hl]
  have c1 := h1.cell 1
  have c2 := h1.cell 2
  simp only [List.getElem?_toArray, List.getElem?_cons_zero, List.getElem?_cons_succ] at c1 c2
  have hz : 8 * n ≤ 800000 := by omega
  generalize 8 * n = z at *
  have s1 : IntKind.i64.wrap ((z : Int) - (at_ : Int)) = ((z - at_ : Nat) : Int) := by rw [IntWalk.i64_in _ (by omega)]; omega
  clear h1 h2 h3 h4 h5 hl
  go_enter Tryd.func97, Tryd.ntmps97
  go_wp2_with fail
  go_quiet (fail)
  go_wp2_with fail
  go_ret
  exact ⟨rfl, _, rfl⟩
set_option maxRecDepth 100000 in
theorem left_nil (w : World) : Calls Tryd.prog 97 #[.pointer none] w fun e w' => e = .returned (.int .i64 0) ∧ w = w' := by
  go_enter Tryd.func97, Tryd.ntmps97
  go_wp2_with fail
  go_ret
  exact ⟨rfl, rfl⟩

set_option maxRecDepth 100000 in
theorem skip_any (w : World) (lo g : Nat) (bs : List Bool) (at_ k : Nat) (hk : k ≤ 100000) (hR : Rd w lo g bs at_) :
    Calls Tryd.prog 108 #[.pointer (some ⟨g, 0, none⟩), .int .i64 (k : Nat)] w fun e w' =>
      e = .returned (.int .i64 (if at_ + k ≤ bs.length then 0 else 1)) ∧ Rd w' lo g bs (if at_ + k ≤ bs.length then at_ + k else at_) ∧ Kept (fun x => x ≠ g) w w' := by
  have C := Lib.hid (left_any w lo g bs at_ hR)
  have HR := Lib.hid hR
  have hle : at_ ≤ bs.length ∧ bs.length ≤ 800000 := by
    obtain ⟨A, n, c, ls, h1, h2, h3, h4, h5, h6, h7⟩ := hR
    rw [h5, rbits_length, h3]
    omega
  have c2 : w.cell? ⟨g, 2, none⟩ = some (.int .i64 at_) := by
    obtain ⟨A, n, c, ls, h1, _⟩ := hR
    exact h1.cell 2
  have f2 : w.frozen? ⟨g, 2, none⟩ = false := by
    obtain ⟨A, n, c, ls, h1, _⟩ := hR
    exact h1.frozen 2
  obtain ⟨z, hz⟩ : ∃ z, z = bs.length := ⟨_, rfl⟩
  rw [← hz] at C hle ⊢
  have HZ := Lib.hid hz
  obtain ⟨hle1, hle2⟩ := hle
  clear hR hz
  by_cases hlt : at_ + k ≤ z
  · rw [if_pos hlt, if_pos hlt]
    have x1 : (k : Int) ≤ ((z - at_ : Nat) : Int) := by omega
    go_enter Tryd.func108, Tryd.ntmps108
    go_wp2_with fail
    refine C.out.mono ?_
    rintro e w1 ⟨rfl, q, rfl⟩
    go_wp2_with fail
    go_ret
    exact ⟨rfl, (HR.out.drewN q).moved (by rw [← HZ.out]; exact hlt), Kept.set (p := ⟨g, 2, none⟩) ((Kept.refl _ w).drewN q) (fun h => h rfl) _⟩
  · rw [if_neg hlt, if_neg hlt]
    have x1 : ¬ (k : Int) ≤ ((z - at_ : Nat) : Int) := by omega
    go_enter Tryd.func108, Tryd.ntmps108
    go_wp2_with fail
    refine C.out.mono ?_
    rintro e w1 ⟨rfl, q, rfl⟩
    go_wp2_with fail
    go_ret
    exact ⟨rfl, HR.out.drewN q, (Kept.refl _ w).drewN q⟩

set_option maxRecDepth 100000 in
theorem peek_any (w : World) (lo g : Nat) (bs : List Bool) (at_ m : Nat) (hm : m ≤ 64) (hR : Rd w lo g bs at_) :
    Calls Tryd.prog 106 #[.pointer (some ⟨g, 0, none⟩), .int .i64 (m : Nat)] w fun e w' =>
      e = .returned (.tuple #[.int .u64 (accB bs at_ m : Nat), .int .i64 ((min m (bs.length - at_) : Nat) : Int)]) ∧ ∃ q, w' = w.drewN q := by
  have C1 := Lib.hid (fun q => left_any (w.drewN q) lo g bs at_ (hR.drewN q))
  obtain ⟨A, n, c, ls, h1, h2, h3, h4, h5, h6, h7⟩ := hR
  have c0 := h1.cell 0
  have c1 := h1.cell 1
  have c2 := h1.cell 2
  simp only [List.getElem?_toArray, List.getElem?_cons_zero, List.getElem?_cons_succ] at c0 c1 c2
  have C2 := Lib.hid (fun q => (number_any (w.drewN q) g g A n c at_ m ls h3 h7 h4 h6 hm c0 c1 (h2.row.drewN q)).mono (fun e w' h => And.intro h.1 h.2.symm))
  rw [← h5] at C2
  generalize bs.length - at_ = d at *
  generalize accB bs at_ m = y at *
  clear h1 h2 h3 h4 h5 h6 c0 c1
  go_enter Tryd.func106, Tryd.ntmps106
  go_wp2_with fail
  go_quiet (first | (go_at_call 98; exact Calls.quiet_of_same (C2.out _)) | (go_at_call 97; exact Calls.quiet_of (C1.out _)))
  go_wp2_with fail
  all_goals
    go_ret2
    refine ⟨?_, _, rfl⟩
    first
    | (rw [show min m d = d by omega]; rfl)
    | (rw [show min m d = m by omega]; rfl)

theorem Rd.cellAt {w : World} {lo g at_ : Nat} {bs : List Bool} (h : Rd w lo g bs at_) : w.cell? ⟨g, 2, none⟩ = some (.int .i64 at_) := by
  obtain ⟨A, n, c, ls, h1, _⟩ := h
  exact h1.cell 2
theorem number_rd (w : World) (lo g : Nat) (bs : List Bool) (at_ m : Nat) (hm : m ≤ 64) (hR : Rd w lo g bs at_) (q : Nat) :
    Calls Tryd.prog 98 #[.pointer (some ⟨g, 0, none⟩), .int .i64 (at_ : Nat), .int .i64 (m : Nat)] (w.drewN q) fun e w' => e = .returned (.int .u64 (accB bs at_ m : Nat)) ∧ w' = w.drewN q := by
  obtain ⟨A, n, c, ls, h1, h2, h3, h4, h5, h6, h7⟩ := hR
  have c0 := h1.cell 0
  have c1 := h1.cell 1
  have h := (number_any (w.drewN q) g g A n c at_ m ls h3 h7 h4 h6 hm c0 c1 (h2.row.drewN q)).mono (fun e w' h => And.intro h.1 h.2.symm)
  rw [← h5] at h
  exact h

/-- The error of what is left. -/
def padE (bs : List Bool) (at_ : Nat) : Int := if bs.length - at_ ≥ 8 ∨ accB bs at_ (bs.length - at_) ≠ 0 then 2 else 0
set_option maxRecDepth 100000 in
theorem pad_any (w : World) (lo g : Nat) (bs : List Bool) (at_ : Nat) (hR : Rd w lo g bs at_) :
    Calls Tryd.prog 82 #[.pointer (some ⟨g, 0, none⟩)] w fun e w' => e = .returned (.int .i64 (padE bs at_)) ∧ ∃ q, w' = w.drewN q := by
  have C1 := Lib.hid (left_any w lo g bs at_ hR)
  have HR := Lib.hid hR
  clear hR
  by_cases h8 : bs.length - at_ < 8
  · by_cases h0 : accB bs at_ (bs.length - at_) = 0
    · have hE : padE bs at_ = 0 := by unfold padE; rw [if_neg (by omega)]
      rw [hE]
      clear hE
      have H0 := Lib.hid h0
      clear h0
      go_enter Tryd.func82, Tryd.ntmps82
      go_wp2_with fail
      refine C1.out.mono ?_
      rintro e w1 ⟨rfl, q1, hq1⟩
      have hR1 : Rd w1 lo g bs at_ := by rw [hq1]; exact HR.out.drewN q1
      have c2 := hR1.cellAt
      have HQ := Lib.hid hq1
      clear hq1
      have C2 := Lib.hid (number_rd w1 lo g bs at_ (bs.length - at_) (by omega) hR1)
      rw [H0.out] at C2
      clear hR1
      generalize bs.length - at_ = d at *
      have h8b : decide ((8 : Int) ≤ (d : Int)) = false := by simp; omega
      go_wp2_with fail
      go_quiet (first | (go_at_call 98; exact Calls.quiet_of_same (C2.out _)))
      go_wp2_with fail
      go_ret
      refine ⟨rfl, ?_⟩
      rw [HQ.out]
      exact ⟨_, World.drewN_drewN _ _ _⟩
    · have hE : padE bs at_ = 2 := by unfold padE; rw [if_pos (.inr h0)]
      rw [hE]
      clear hE
      go_enter Tryd.func82, Tryd.ntmps82
      go_wp2_with fail
      refine C1.out.mono ?_
      rintro e w1 ⟨rfl, q1, hq1⟩
      have hR1 : Rd w1 lo g bs at_ := by rw [hq1]; exact HR.out.drewN q1
      have c2 := hR1.cellAt
      have HQ := Lib.hid hq1
      clear hq1
      have C2 := Lib.hid (number_rd w1 lo g bs at_ (bs.length - at_) (by omega) hR1)
      clear hR1
      generalize bs.length - at_ = d at *
      generalize accB bs at_ d = y at *
      have hyb : ((y : Int) != 0) = true := bne_iff_ne.mpr (by omega)
      clear h0
      have h8b : decide ((8 : Int) ≤ (d : Int)) = false := by simp; omega
      go_wp2_with fail
      go_quiet (first | (go_at_call 98; exact Calls.quiet_of_same (C2.out _)))
      go_wp2_with fail
      go_ret
      refine ⟨rfl, ?_⟩
      rw [HQ.out]
      exact ⟨_, World.drewN_drewN _ _ _⟩
  · have hE : padE bs at_ = 2 := by unfold padE; rw [if_pos (.inl (by omega))]
    rw [hE]
    clear hE
    go_enter Tryd.func82, Tryd.ntmps82
    go_wp2_with fail
    refine C1.out.mono ?_
    rintro e w1 ⟨rfl, q1, hq1⟩
    have hR1 : Rd w1 lo g bs at_ := by rw [hq1]; exact HR.out.drewN q1
    have c2 := hR1.cellAt
    have HQ := Lib.hid hq1
    clear hq1
    clear hR1
    generalize bs.length - at_ = d at *
    have h8b : decide ((8 : Int) ≤ (d : Int)) = true := by simp; omega
    go_wp2_with fail
    go_quiet (fail)
    go_wp2_with fail
    go_ret
    refine ⟨rfl, ?_⟩
    rw [HQ.out]
    exact ⟨_, World.drewN_drewN _ _ _⟩

set_option maxRecDepth 100000 in
theorem newreader_any (w : World) (A : Option Addr) (n c : Nat) (ls : List Nat) (hn : ls.length = n) (hle : n ≤ 100000) (h8 : ∀ x ∈ ls, x ≤ 255) (hnil : A = none → n = 0 ∧ c = 0) (ha : Row w w.heap.size A n 1 (numF .u8 ls)) :
    Calls Tryd.prog 79 #[.slice A n c] w fun e w' => ∃ g, e = .returned (.pointer (some ⟨g, 0, none⟩)) ∧ Rd w' w.heap.size g (rbits ls) 0 ∧ w.heap.size ≤ g ∧ Below w.heap.size w w' := by
  have C := Lib.hid (clone_u8 w A n c ls hn hle hnil ha)
  have HN := Lib.hid hn
  have H8 := Lib.hid h8
  clear hn h8 hnil ha
  go_enter Tryd.func79, Tryd.ntmps79
  go_wp2_with fail
  refine C.out.mono ?_
  rintro e w1 ⟨v, rfl, hown, hb1⟩
  obtain ⟨A1, c1, rfl⟩ := own_shape hown
  have z1 := hb1.size
  have hrow := RowIn.of_own (f := numF .u8 ls) (s := 1) hown rfl (fun i j hi hj => by have e0 : j = 0 := (by omega); subst e0; exact numL_get (by rw [HN.out]; exact hi))
  have HROW := Lib.hid hrow
  clear hown hrow C
  go_wp2_with fail
  go_ret
  refine ⟨_, rfl, ⟨A1, n, c1, ls, ?_, ?_, HN.out, H8.out, rfl, by omega, hle⟩, z1, bel_alloc z1 hb1⟩
  · have h := Blk.made w1 167 #[.slice A1 n c1, .int .i64 ((8 * n : Nat) : Int), .int .i64 ((0 : Nat) : Int)]
    simpa using h
  · exact HROW.out.keep (fun p _ h => World.cell?_alloc_lt (w := w1) (a := p) (o := _) h)
end Go.Proofs.YtloakdiioaodaaaDoor.Huff
