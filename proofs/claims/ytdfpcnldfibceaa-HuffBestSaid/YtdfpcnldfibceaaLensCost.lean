/-
  The walks of Kraft and Cost, the program's and the reference's.
-/
import Derived.Test.YtdfpcnldfibceaaLensFacts
import Derived.Test.YtdfpcnldfibceaaRefCheck
import Derived.Test.YtdfpcnldfibceaaSortSym
namespace Go.Proofs.Ytdfpcnldfibceaa.Lens
open Go.RowKit Go.Proofs.Ytdfpcnldfibceaa.Mem Go.Proofs.Ytdfpcnldfibceaa.Own Go.Proofs.Ytdfpcnldfibceaa.Srt Go.Proofs.Ytdfpcnldfibceaa.Canon

theorem shl_one (x S : Nat) (h : x ≤ 15) (hS : S ≤ 9830400) : wrap64 ((S : Int) + wrap64 ((2 : Int) ^ (15 - x))) = ((S + 2 ^ (15 - x) : Nat) : Int) := by
  have h1 : 2 ^ (15 - x) ≤ 2 ^ 15 := Nat.pow_le_pow_right (by omega) (by omega)
  have e : (2 : Int) ^ (15 - x) = ((2 ^ (15 - x) : Nat) : Int) := by simp
  rw [e]
  generalize 2 ^ (15 - x) = p at *
  have h2 : p ≤ 32768 := h1
  unfold wrap64
  omega

set_option maxHeartbeats 1000000 in
set_option maxRecDepth 100000 in
theorem kraft_any (w : World) (A : Option Addr) (n c : Nat) (ls : List Nat) (hn : ls.length = n) (hN : n ≤ 9223372036854775807) (ha : Row w w.heap.size A n 1 (numF .u8 ls)) :
    Calls Try.prog 76 #[.slice A n c] w fun e w' => e = .returned (.tuple #[.int .i64 (kraftV ls : Nat), .int .i64 (kraftE ls)]) ∧ w = w' := by
  have HN := Lib.hid hn
  clear hn
  by_cases hbig : 300 < n
  · have hb : goodB ls = false := bad_long (by rw [HN.out]; exact hbig)
    have HV : Hid (kraftV ls = 0) := by show _ = _; unfold kraftV; rw [hb]; rfl
    have HE : Hid (kraftE ls = 13) := by show _ = _; unfold kraftE; rw [hb]; rfl
    clear hb
    go_enter Try.func76, Try.ntmps76
    go_wp2_with fail
    go_ret2
    exact ⟨by rw [HV.out, HE.out]; rfl, rfl⟩
  · go_enter Try.func76, Try.ntmps76
    go_wp2_with fail
    go_loop [4, 12] (fun s i => ∃ (k S : Nat), k ≤ n ∧ i = .int .i64 k ∧ s = .int .i64 S ∧ Hid (S = kraft (ls.take k)) ∧ S ≤ 9830400 ∧ Hid (∀ x ∈ ls.take k, x ≤ 15)) (fun _ i => n - (intOf i).toNat)
    case atStart => exact ⟨0, 0, by omega, rfl, rfl, rfl, by omega, fun x hx => by simp at hx⟩
    case round =>
      obtain ⟨k, S, hk, rfl, rfl, hS, bS, hsm⟩ := hrel
      by_cases hlt : k < n
      · obtain ⟨b, off, x, rfl, hbb, hx, c0⟩ := num_cell ha HN.out hlt
        have x0 : (0 : Int) ≤ (k : Int) := by omega
        have x1 : (k : Int) < (n : Int) := by omega
        by_cases h15 : 15 < x
        · have hb := bad_at hx h15
          have HV : Hid (kraftV ls = 0) := by show _ = _; unfold kraftV; rw [hb]; rfl
          have HE : Hid (kraftE ls = 13) := by show _ = _; unfold kraftE; rw [hb]; rfl
          clear hb hx
          go_wp2_with fail
          go_ret2
          go_light
          exact ⟨by rw [HV.out, HE.out]; rfl, rfl⟩
        · have htk := take_snoc hx
          have hks : kraft (ls.take (k + 1)) = kraft (ls.take k) + if x = 0 then 0 else 2 ^ (15 - x) := by rw [htk, kraft_snoc]
          have hkl := kraft_le (ls.take (k + 1))
          rw [List.length_take, hks, ← hS.out] at hkl
          have hsn : ∀ z ∈ ls.take (k + 1), z ≤ 15 := by
            intro z hz
            rw [htk, List.mem_append, List.mem_singleton] at hz
            rcases hz with hz | rfl
            · exact hsm.out z hz
            · omega
          have HSN := Lib.hid hsn
          have HKS := Lib.hid hks
          clear htk hks hsn hx
          by_cases hx0 : x = 0
          · subst hx0
            go_wp2_with fail
            go_round
            case rel =>
              go_light
              exact ⟨k + 1, S, by omega, by go_num, rfl, by show S = kraft (ls.take (k + 1)); rw [HKS.out, ← hS.out]; simp, bS, HSN⟩
            case measure => go_light; simp [intOf]; omega
          · have hxp : 0 < x := by omega
            rw [if_neg hx0] at hkl HKS
            have HKL := Lib.hid hkl
            have s1 : IntKind.u8.wrap ((15 : Int) - (x : Int)) = (15 : Int) - (x : Int) := by rw [IntKind.wrap_u8]; omega
            have s2 : ((15 : Int) - (x : Int)).toNat = 15 - x := by omega
            have s3 : ¬ (15 : Int) - (x : Int) < 0 := by omega
            have s4 : (0 : Int) ≤ (15 : Int) - (x : Int) := by omega
            have s5 : (x : Int) ≤ 15 := by omega
            clear hkl hx0
            go_wp2_with fail
            go_round
            case rel =>
              go_light
              have h5 := HKL.out
              have h6 : min (k + 1) ls.length * 32768 ≤ 300 * 32768 := Nat.mul_le_mul_right _ (by omega)
              exact ⟨k + 1, S + 2 ^ (15 - x), by omega, by go_num, congrArg (Value.int .i64) (shl_one x S (by omega) bS), by show S + 2 ^ (15 - x) = kraft (ls.take (k + 1)); rw [HKS.out, ← hS.out], by omega, HSN⟩
            case measure => go_light; simp [intOf]; omega
      · obtain rfl : k = n := by omega
        have hall : ls.take k = ls := List.take_of_length_le (by have := HN.out; omega)
        have hgood : goodB ls = true := good_all (by have := HN.out; omega) (by have := hsm.out; rw [hall] at this; exact this)
        have HV : Hid (kraftV ls = S) := by show _ = _; unfold kraftV; rw [hgood, if_pos rfl, hS.out, hall]
        have HE : Hid (kraftE ls = 0) := by show _ = _; unfold kraftE; rw [hgood]; rfl
        clear hall hgood
        go_wp2_with fail
        go_ret2
        go_light
        exact ⟨by rw [HV.out, HE.out]; rfl, rfl⟩

def costE (ks ls : List Nat) : Int := if ks.length = ls.length ∧ ls.length ≤ 300 then 0 else 13
def costO (ks ls : List Nat) : Nat := if costE ks ls = 0 then costV ks ls else 0
/-- What the first symbols cost. -/
def costT (ks ls : List Nat) (t : Nat) : Nat := ((List.range t).map fun s => ks.getD s 0 * ls.getD s 0).sum
theorem costT_succ (ks ls : List Nat) (t : Nat) : costT ks ls (t + 1) = costT ks ls t + ks.getD t 0 * ls.getD t 0 := by
  unfold costT
  rw [List.range_succ, List.map_append, List.sum_append]
  simp

set_option maxHeartbeats 1000000 in
set_option maxRecDepth 100000 in
theorem cost_any (w : World) (A B : Option Addr) (n c m d : Nat) (ks ls : List Nat) (hn : ks.length = n) (hm : ls.length = m) (hN : n ≤ 9223372036854775807) (hM : m ≤ 9223372036854775807) (h32 : ∀ x ∈ ks, x < 4294967296) (h8 : ∀ x ∈ ls, x ≤ 255) (ha : Row w w.heap.size A n 1 (numF .u32 ks)) (hb : Row w w.heap.size B m 1 (numF .u8 ls)) :
    Calls Try.prog 75 #[.slice A n c, .slice B m d] w fun e w' => e = .returned (.tuple #[.int .u64 (costO ks ls : Nat), .int .i64 (costE ks ls)]) ∧ Drawn w w' := by
  by_cases hbad : n = m ∧ m ≤ 300
  · obtain ⟨rfl, h300⟩ := hbad
    have HE : Hid (costE ks ls = 0) := by show _ = _; unfold costE; rw [if_pos ⟨by omega, by omega⟩]
    have HO : Hid (costO ks ls = costT ks ls n) := by show _ = _; unfold costO; rw [HE.out, if_pos rfl, ← hn]; rfl
    have HN := Lib.hid hn
    have HM := Lib.hid hm
    have H32 := Lib.hid h32
    have H8 := Lib.hid h8
    have g0 : ((n : Int) != (n : Int)) = false := by simp
    have g1 : decide ((300 : Int) < (n : Int)) = false := by simp; omega
    have g2 : decide (300 < n) = false := by simp; omega
    clear hn hm h32 h8
    go_enter Try.func75, Try.ntmps75
    go_wp2_with fail
    go_loopw [6, 21] (fun s i wr => ∃ (k S : Nat), k ≤ n ∧ i = .int .i64 k ∧ s = .int .u64 S ∧ Hid (S = costT ks ls k) ∧ Hid (S ≤ k * 1099511627776) ∧ Hid (Drawn w wr)) (fun _ i _ => n - (intOf i).toNat)
    case atStart => exact ⟨0, 0, by omega, rfl, rfl, rfl, by show _ ≤ _; omega, Drawn.refl w⟩
    case round =>
      obtain ⟨k, S, hk, rfl, rfl, hS, bS, hD⟩ := hrel
      by_cases hlt : k < n
      · obtain ⟨b, off, x, rfl, hbb, hx, c0⟩ := num_cell ha HN.out hlt
        obtain ⟨b', off', y, rfl, hbb', hy, c1⟩ := num_cell hb HM.out hlt
        have d0 : wr.cell? ⟨b, off + k, none⟩ = _ := (World.cell?_of_block (a := ⟨b, off + k, none⟩) ((hD.out.kept (K := fun _ => True)).block b trivial)).trans c0
        have d1 : wr.cell? ⟨b', off' + k, none⟩ = _ := (World.cell?_of_block (a := ⟨b', off' + k, none⟩) ((hD.out.kept (K := fun _ => True)).block b' trivial)).trans c1
        have hx32 := H32.out x (List.mem_of_getElem? hx)
        have hy8 := H8.out y (List.mem_of_getElem? hy)
        have hct : costT ks ls (k + 1) = S + x * y := by
          rw [costT_succ, ← hS.out, List.getD_eq_getElem?_getD, List.getD_eq_getElem?_getD, hx, hy]; rfl
        obtain ⟨p, hp⟩ : ∃ p, p = x * y := ⟨_, rfl⟩
        have hpl : p ≤ 4294967296 * 256 := by rw [hp]; exact Nat.mul_le_mul (by omega) (by omega)
        rw [← hp] at hct
        have hbS := bS.out
        have hkS : k * 1099511627776 ≤ 300 * 1099511627776 := Nat.mul_le_mul_right _ (by omega)
        have e0 : (x : Int) * (y : Int) = (p : Int) := by rw [hp]; simp
        have s1 : IntKind.u64.wrap (x : Int) = (x : Int) := by rw [IntKind.wrap_u64]; omega
        have s2 : IntKind.u64.wrap (y : Int) = (y : Int) := by rw [IntKind.wrap_u64]; omega
        have s3 : IntKind.u64.wrap (p : Int) = (p : Int) := by rw [IntKind.wrap_u64]; omega
        have s4 : IntKind.u64.wrap ((S : Int) + (p : Int)) = (S : Int) + (p : Int) := by rw [IntKind.wrap_u64]; omega
        have HCT := Lib.hid hct
        have HBS : Hid (S + p ≤ (k + 1) * 1099511627776) := by show _ ≤ _; omega
        have HD2 : ∀ q, Hid (Drawn w (wr.drewN q)) := fun q => hD.out.more q
        have x0 : (0 : Int) ≤ (k : Int) := by omega
        have x1 : (k : Int) < (n : Int) := by omega
        clear hx hy hct hp hbS hkS hpl c0 c1
        go_wp2_with fail
        go_roundw
        case rel => go_light; exact ⟨k + 1, S + p, by omega, by go_num, by go_num, by show _ = _; rw [HCT.out], HBS, hD⟩
        case measure => go_light; simp [intOf]; omega
      · obtain rfl : k = n := by omega
        go_wp2_with fail
        go_ret2
        go_light
        exact ⟨by rw [HO.out, HE.out, ← hS.out]; rfl, hD.out⟩
  · have HE : Hid (costE ks ls = 13) := by show _ = _; unfold costE; rw [if_neg (by omega)]
    have HO : Hid (costO ks ls = 0) := by show _ = _; unfold costO; rw [HE.out]; rfl
    clear hn hm
    by_cases h1 : n = m
    · subst h1
      have g1 : decide ((300 : Int) < (n : Int)) = true := by simp; omega
      have g2 : decide (300 < n) = true := by simp; omega
      clear hbad
      go_enter Try.func75, Try.ntmps75
      go_wp2_with fail
      go_ret2
      exact ⟨by rw [HO.out, HE.out]; rfl, Drawn.refl w⟩
    · have g1 : ((n : Int) != (m : Int)) = true := by simp; omega
      clear hbad
      go_enter Try.func75, Try.ntmps75
      go_wp2_with fail
      go_ret2
      exact ⟨by rw [HO.out, HE.out]; rfl, Drawn.refl w⟩

set_option maxHeartbeats 1000000 in
set_option maxRecDepth 100000 in
theorem rcost_any (w : World) (A B : Option Addr) (n c m d : Nat) (ks ls : List Nat) (hn : ks.length = n) (hm : ls.length = m) (hN : n ≤ 9223372036854775807) (hM : m ≤ 9223372036854775807) (h32 : ∀ x ∈ ks, x < 4294967296) (h8 : ∀ x ∈ ls, x ≤ 255) (ha : Row w w.heap.size A n 1 (numF .u32 ks)) (hb : Row w w.heap.size B m 1 (numF .u8 ls)) :
    Calls Try.prog 77 #[.slice A n c, .slice B m d] w fun e w' => e = .returned (.tuple #[.int .u64 (costO ks ls : Nat), .int .i64 (costE ks ls)]) ∧ Drawn w w' := by
  by_cases hbad : n = m ∧ m ≤ 300
  · obtain ⟨rfl, h300⟩ := hbad
    have HE : Hid (costE ks ls = 0) := by show _ = _; unfold costE; rw [if_pos ⟨by omega, by omega⟩]
    have HO : Hid (costO ks ls = costT ks ls n) := by show _ = _; unfold costO; rw [HE.out, if_pos rfl, ← hn]; rfl
    have HN := Lib.hid hn
    have HM := Lib.hid hm
    have H32 := Lib.hid h32
    have H8 := Lib.hid h8
    have g0 : ((n : Int) != (n : Int)) = false := by simp
    have g1 : decide ((300 : Int) < (n : Int)) = false := by simp; omega
    have g2 : decide (300 < n) = false := by simp; omega
    clear hn hm h32 h8
    go_enter Try.func77, Try.ntmps77
    go_wp2_with fail
    go_loopw [6, 7] (fun s i wr => ∃ (k S : Nat), k ≤ n ∧ i = .int .i64 k ∧ s = .int .u64 S ∧ Hid (S = costT ks ls k) ∧ Hid (S ≤ k * 1099511627776) ∧ Hid (Drawn w wr)) (fun _ i _ => n - (intOf i).toNat)
    case atStart => exact ⟨0, 0, by omega, rfl, rfl, rfl, by show _ ≤ _; omega, Drawn.refl w⟩
    case round =>
      obtain ⟨k, S, hk, rfl, rfl, hS, bS, hD⟩ := hrel
      by_cases hlt : k < n
      · obtain ⟨b, off, x, rfl, hbb, hx, c0⟩ := num_cell ha HN.out hlt
        obtain ⟨b', off', y, rfl, hbb', hy, c1⟩ := num_cell hb HM.out hlt
        have d0 : wr.cell? ⟨b, off + k, none⟩ = _ := (World.cell?_of_block (a := ⟨b, off + k, none⟩) ((hD.out.kept (K := fun _ => True)).block b trivial)).trans c0
        have d1 : wr.cell? ⟨b', off' + k, none⟩ = _ := (World.cell?_of_block (a := ⟨b', off' + k, none⟩) ((hD.out.kept (K := fun _ => True)).block b' trivial)).trans c1
        have hx32 := H32.out x (List.mem_of_getElem? hx)
        have hy8 := H8.out y (List.mem_of_getElem? hy)
        have hct : costT ks ls (k + 1) = S + x * y := by
          rw [costT_succ, ← hS.out, List.getD_eq_getElem?_getD, List.getD_eq_getElem?_getD, hx, hy]; rfl
        obtain ⟨p, hp⟩ : ∃ p, p = x * y := ⟨_, rfl⟩
        have hpl : p ≤ 4294967296 * 256 := by rw [hp]; exact Nat.mul_le_mul (by omega) (by omega)
        rw [← hp] at hct
        have hbS := bS.out
        have hkS : k * 1099511627776 ≤ 300 * 1099511627776 := Nat.mul_le_mul_right _ (by omega)
        have e0 : (x : Int) * (y : Int) = (p : Int) := by rw [hp]; simp
        have s1 : IntKind.u64.wrap (x : Int) = (x : Int) := by rw [IntKind.wrap_u64]; omega
        have s2 : IntKind.u64.wrap (y : Int) = (y : Int) := by rw [IntKind.wrap_u64]; omega
        have s3 : IntKind.u64.wrap (p : Int) = (p : Int) := by rw [IntKind.wrap_u64]; omega
        have s4 : IntKind.u64.wrap ((S : Int) + (p : Int)) = (S : Int) + (p : Int) := by rw [IntKind.wrap_u64]; omega
        have HCT := Lib.hid hct
        have HBS : Hid (S + p ≤ (k + 1) * 1099511627776) := by show _ ≤ _; omega
        have HD2 : ∀ q, Hid (Drawn w (wr.drewN q)) := fun q => hD.out.more q
        have x0 : (0 : Int) ≤ (k : Int) := by omega
        have x1 : (k : Int) < (n : Int) := by omega
        clear hx hy hct hp hbS hkS hpl c0 c1
        go_wp2_with fail
        go_quiet (fail)
        go_wp2_with fail
        go_roundw
        case rel => go_light; exact ⟨k + 1, S + p, by omega, by go_num, by go_num, by show _ = _; rw [HCT.out], HBS, HD2 nq⟩
        case measure => go_light; simp [intOf]; omega
      · obtain rfl : k = n := by omega
        go_wp2_with fail
        go_ret2
        go_light
        exact ⟨by rw [HO.out, HE.out, ← hS.out]; rfl, hD.out⟩
  · have HE : Hid (costE ks ls = 13) := by show _ = _; unfold costE; rw [if_neg (by omega)]
    have HO : Hid (costO ks ls = 0) := by show _ = _; unfold costO; rw [HE.out]; rfl
    clear hn hm
    by_cases h1 : n = m
    · subst h1
      have g1 : decide ((300 : Int) < (n : Int)) = true := by simp; omega
      have g2 : decide (300 < n) = true := by simp; omega
      clear hbad
      go_enter Try.func77, Try.ntmps77
      go_wp2_with fail
      go_ret2
      exact ⟨by rw [HO.out, HE.out]; rfl, Drawn.refl w⟩
    · have g1 : ((n : Int) != (m : Int)) = true := by simp; omega
      clear hbad
      go_enter Try.func77, Try.ntmps77
      go_wp2_with fail
      go_ret2
      exact ⟨by rw [HO.out, HE.out]; rfl, Drawn.refl w⟩
end Go.Proofs.Ytdfpcnldfibceaa.Lens
