/-
  Options: the walks of opts.within, opts.Check and the reference's Check for version 1. Logs: what they weigh, whether they may be: the walks of recs.Check and the reference's. Numbers of 64 bits and texts, written: nums.Num, nums.Text and the reference's. A record's bytes: the walks of recs.one and the reference's One. Logs' bytes: the walks of recs.Bytes and the reference's Bytes. Groups of a log: the walks of recs.Groups and the reference's. Plain: the columns of a log (chapter 17): times by steps, levels by runs. No walk. Small steps of an archive of version 1: its mark, its flag; the plain
-/
import Derived.Test.YtcafklmbehoggaaGreatDoorZBodyNone1
import Derived.Test.YtcafklmbehoggaaGreatDoorZBodyNone10
import Derived.Test.YtcafklmbehoggaaGreatDoorZBodyNone15
import Derived.Test.YtcafklmbehoggaaGreatDoorZBodyNone24
import Derived.Test.YtcafklmbehoggaaGreatDoorZBodyNone17
import Derived.Test.YtcafklmbehoggaaGreatDoorZBodyNone3
import Derived.Test.YtcafklmbehoggaaGreatDoorProg
import Derived.BigQuiet
import Derived.BigGuardPart
import Derived.Deep.QuietTactic
import Derived.Deep.Light
import Derived.Lib.Hide
import Derived.Lib.AppendStr
import Derived.Lib.MinMax
import Derived.Lib.SmallJoins
import Derived.Deep.DeepCutAuto
namespace Go.Proofs.YtcafklmbehoggaaGreatDoor.Opts
open Go.RowKit Go.Proofs.YtcafklmbehoggaaGreatDoor.Mem
structure Opt where
  block : Int
  plain : Bool
  bucket : Int
  data : Int
  parity : Int
  chunk : Int
def Opt.val (o : Opt) : Value := .agg #[.int .i64 o.block, .bool o.plain, .int .i64 o.bucket, .int .i64 o.data, .int .i64 o.parity, .int .i64 o.chunk]
theorem opt_eql (a b : Bool) (a0 b0 a2 b2 a3 b3 a4 b4 a5 b5 : Int) (w : World) : (binOp .eql 23 (.agg #[.int .i64 a0, .bool a, .int .i64 a2, .int .i64 a3, .int .i64 a4, .int .i64 a5]) (.agg #[.int .i64 b0, .bool b, .int .i64 b2, .int .i64 b3, .int .i64 b4, .int .i64 b5])).run Tryz.prog w = .ok (.bool (decide (a0 = b0 ∧ a = b ∧ a2 = b2 ∧ a3 = b3 ∧ a4 = b4 ∧ a5 = b5))) w := by
  go_simp
  by_cases h0 : a0 = b0 <;> by_cases h1 : a = b <;> by_cases h2 : a2 = b2 <;> by_cases h3 : a3 = b3 <;> by_cases h4 : a4 = b4 <;> by_cases h5 : a5 = b5 <;> simp [h0, h1, h2, h3, h4, h5]
theorem within_any (w : World) (x lo hi : Int) :
    Calls Tryz.prog 104 #[.int .i64 x, .int .i64 lo, .int .i64 hi] w fun e w' => e = .returned (.bool (decide (lo ≤ x ∧ x ≤ hi))) ∧ w' = w := by
  by_cases h : lo ≤ x
  · have g1 : decide (lo ≤ x) = true := by simpa using h
    have HD : Hid (decide (lo ≤ x ∧ x ≤ hi) = decide (x ≤ hi)) := by show _ = _; simp [h]
    rw [HD.out]
    clear h
    go_enter Tryz.func104, Tryz.ntmps104
    go_wp2_with fail
    go_ret
    exact ⟨rfl, rfl⟩
  · have g1 : decide (lo ≤ x) = false := by simpa using h
    have HD : Hid (decide (lo ≤ x ∧ x ≤ hi) = false) := by show _ = _; simp [h]
    rw [HD.out]
    clear h
    go_enter Tryz.func104, Tryz.ntmps104
    go_wp2_with fail
    go_ret
    exact ⟨rfl, rfl⟩
end Go.Proofs.YtcafklmbehoggaaGreatDoor.Opts
namespace Go.Proofs.YtcafklmbehoggaaGreatDoor.Recs
open Go.RowKit Go.Proofs.YtcafklmbehoggaaGreatDoor.Mem
def Rec.val (r : Rec) : Value := .agg #[.int .u64 r.time, .int .u8 r.level, .string r.source, .string r.text]
def longB (r : Rec) : Bool := decide (4000 < r.source.size) || decide (4000 < r.text.size)
def chkE (l : List Rec) : Int := if 20000 < l.length then 6 else if l.any longB = true then 6 else if 1048576 < weight l then 6 else 0
theorem any_drop {l : List Rec} {p : Rec → Bool} {k : Nat} {r : Rec} (hr : l[k]? = some r) : (l.drop k).any p = (p r || (l.drop (k + 1)).any p) := by
  obtain ⟨hk, e⟩ := List.getElem?_eq_some_iff.1 hr
  rw [List.drop_eq_getElem_cons hk, List.any_cons, e]
theorem longB_false {r : Rec} (h : longB r = false) : r.source.size ≤ 4000 ∧ r.text.size ≤ 4000 := by
  unfold longB at h
  simp at h
  exact h
theorem weight_take {l : List Rec} {k : Nat} {r : Rec} (hr : l[k]? = some r) : weight (l.take (k + 1)) = weight (l.take k) + weigh r := by
  rw [List.take_add_one, hr]
  simp [weight_snoc]
theorem weight_le {l : List Rec} (h : ∀ r ∈ l, longB r = false) : 0 ≤ weight l ∧ weight l ≤ 8016 * (l.length : Int) := by
  induction l with
  | nil => simp [weight_nil]
  | cons r l ih =>
    have h1 := longB_false (h r (by simp))
    have h2 := ih (fun x hx => h x (by simp [hx]))
    have e : weight (r :: l) = weigh r + weight l := by
      simp only [weight, List.map_cons, List.foldl_cons]
      rw [foldl_add]
      omega
    rw [e]
    unfold weigh
    simp only [List.length_cons]
    push_cast
    omega
theorem long_any (w : World) (r : Rec) :
    Calls Tryz.prog 79 #[r.val] w fun e w' => e = .returned (.bool (longB r)) ∧ Below w.heap.size w w' := by
  unfold Rec.val
  by_cases h1 : 4000 < r.source.size
  · have hl : longB r = true := by unfold longB; simp [h1]
    rw [hl]
    have g1 : decide ((4000 : Int) < (r.source.size : Int)) = true := by simp; omega
    have g1' : decide (4000 < r.source.size) = true := by simp; omega
    clear hl h1
    go_enter Tryz.func79, Tryz.ntmps79
    go_wp2_with fail
    go_ret
    exact ⟨rfl, by (repeat (first | (with_reducible exact Below.refl _ _) | (with_reducible assumption) | (with_reducible refine Below.drew ?_) | (with_reducible refine below_drewN ?_ _) | ((with_reducible refine bel_set ?_ ?_); (focus (first | (simp; done) | (simp; omega) | omega | (simp at *; omega)))) | (with_reducible refine bel_alloc0 ?_) | (with_reducible refine bel_step0 (by assumption) ?_) | ((with_reducible refine bel_alloc ?_ ?_); (focus (first | (simp; done) | (simp; omega) | omega | (simp at *; omega)))) | ((with_reducible refine bel_step (by assumption) ?_ ?_); (focus (first | (simp; done) | (simp; omega) | omega | (simp at *; omega))))))⟩
  · have g1 : decide ((4000 : Int) < (r.source.size : Int)) = false := by simp; omega
    have g1' : decide (4000 < r.source.size) = false := by simp; omega
    by_cases h2 : 4000 < r.text.size
    · have hl : longB r = true := by unfold longB; simp [h2]
      rw [hl]
      have g2 : decide ((4000 : Int) < (r.text.size : Int)) = true := by simp; omega
      have g2' : decide (4000 < r.text.size) = true := by simp; omega
      clear hl h1 h2
      go_enter Tryz.func79, Tryz.ntmps79
      go_wp2_with fail
      go_ret
      exact ⟨rfl, by (repeat (first | (with_reducible exact Below.refl _ _) | (with_reducible assumption) | (with_reducible refine Below.drew ?_) | (with_reducible refine below_drewN ?_ _) | ((with_reducible refine bel_set ?_ ?_); (focus (first | (simp; done) | (simp; omega) | omega | (simp at *; omega)))) | (with_reducible refine bel_alloc0 ?_) | (with_reducible refine bel_step0 (by assumption) ?_) | ((with_reducible refine bel_alloc ?_ ?_); (focus (first | (simp; done) | (simp; omega) | omega | (simp at *; omega)))) | ((with_reducible refine bel_step (by assumption) ?_ ?_); (focus (first | (simp; done) | (simp; omega) | omega | (simp at *; omega))))))⟩
    · have hl : longB r = false := by unfold longB; simp; omega
      rw [hl]
      have g2 : decide ((4000 : Int) < (r.text.size : Int)) = false := by simp; omega
      have g2' : decide (4000 < r.text.size) = false := by simp; omega
      clear hl h1 h2
      go_enter Tryz.func79, Tryz.ntmps79
      go_wp2_with fail
      go_ret
      exact ⟨rfl, by (repeat (first | (with_reducible exact Below.refl _ _) | (with_reducible assumption) | (with_reducible refine Below.drew ?_) | (with_reducible refine below_drewN ?_ _) | ((with_reducible refine bel_set ?_ ?_); (focus (first | (simp; done) | (simp; omega) | omega | (simp at *; omega)))) | (with_reducible refine bel_alloc0 ?_) | (with_reducible refine bel_step0 (by assumption) ?_) | ((with_reducible refine bel_alloc ?_ ?_); (focus (first | (simp; done) | (simp; omega) | omega | (simp at *; omega)))) | ((with_reducible refine bel_step (by assumption) ?_ ?_); (focus (first | (simp; done) | (simp; omega) | omega | (simp at *; omega))))))⟩
set_option maxRecDepth 100000 in
theorem rindex_any (w : World) (A : Option Addr) (n c : Nat) (l : List Rec) (hl : l.length = n) (hn : n ≤ 9223372036854775807) (hr : Row w w.heap.size A n 4 (recF l)) (K : Nat) (p : Rec → Bool) (hK : ∀ args wx, (callFunc K args).run Tryz.prog wx = .ok (.enter K args) wx)
    (hp : ∀ wx r, Calls Tryz.prog K #[Rec.val r] wx fun e w' => e = .returned (.bool (p r)) ∧ Below wx.heap.size wx w') :
    Calls Tryz.prog 134 #[.slice A n c, .func (.func K) #[] #[]] w fun e w' => ∃ z : Int, e = .returned (.int .i64 z) ∧ decide (0 ≤ z) = l.any p ∧ Below w.heap.size w w' := by
  have HP := Lib.hid hp
  have HL := Lib.hid hl
  clear hp hl
  go_enter Tryz.func134, Tryz.ntmps134
  go_wp2_with fail
  go_loopw [8] (fun i wx => ∃ k : Nat, k ≤ n ∧ i = .int .i64 k ∧ Hid ((l.drop k).any p = l.any p) ∧ Hid (Below w.heap.size w wx)) (fun i _ => n - (intOf i).toNat)
  case atStart => exact ⟨0, by omega, rfl, rfl, Below.refl _ _⟩
  case round =>
    obtain ⟨k, hk, rfl, hA, HB⟩ := hrel
    by_cases hlt : k < n
    · obtain ⟨b, off, r, rfl, hbb, hg, c0, c1, c2, c3⟩ := Row.rec (hr.below HB.out) HL.out hlt
      have ha := hA.out
      rw [any_drop hg] at ha
      have D := HP.out wr r
      unfold Rec.val at D
      have x0 : (0 : Int) ≤ (k : Int) := by omega
      have x1 : (k : Int) < (n : Int) := by omega
      cases hb : p r
      · rw [hb] at D ha
        rw [Bool.false_or] at ha
        have D := Lib.hid D
        have HA := Lib.hid ha
        clear hA ha hb hg
        go_wp2_with fail
        refine D.out.mono ?_
        rintro e w1 ⟨rfl, hb1⟩
        have HB1 : Hid (Below w.heap.size w w1) := bel_step0 hb1 HB.out
        clear hb1 D c0 c1 c2 c3
        go_wp2_with fail
        go_roundw
        case measure => go_light; simp [intOf]; omega
        case rel => go_light; exact ⟨k + 1, by omega, by go_num, HA.out, HB1.out⟩
      · rw [hb] at D ha
        rw [Bool.true_or] at ha
        have D := Lib.hid D
        have HA := Lib.hid ha
        clear hA ha hb hg
        go_wp2_with fail
        refine D.out.mono ?_
        rintro e w1 ⟨rfl, hb1⟩
        have HB1 : Hid (Below w.heap.size w w1) := bel_step0 hb1 HB.out
        clear hb1 D c0 c1 c2 c3
        go_wp2_with fail
        go_ret
        exact ⟨k, rfl, by rw [← HA.out]; simp, HB1.out⟩
    · obtain rfl : k = n := by omega
      have ha := hA.out
      rw [List.drop_of_length_le (by rw [HL.out]; exact Nat.le_refl _)] at ha
      have HA := Lib.hid ha
      clear ha hA
      go_wp2_with fail
      go_ret
      exact ⟨-1, rfl, by rw [← HA.out]; rfl, HB.out⟩
set_option maxRecDepth 100000 in
theorem rcontains_any (w : World) (A : Option Addr) (n c : Nat) (l : List Rec) (hl : l.length = n) (hn : n ≤ 9223372036854775807) (hr : Row w w.heap.size A n 4 (recF l)) :
    Calls Tryz.prog 78 #[.slice A n c, .func (.func 79) #[] #[]] w fun e w' => e = .returned (.bool (l.any longB)) ∧ Below w.heap.size w w' := by
  have D := Lib.hid (rindex_any w A n c l hl hn hr 79 longB (by intro args wx; simp [callFunc, go_sem, Tryz.func79]; rfl) long_any)
  clear hl hr
  go_enter Tryz.func78, Tryz.ntmps78
  go_wp2_with fail
  refine D.out.mono ?_
  rintro e w1 ⟨z, rfl, hz, hb⟩
  have HZ := Lib.hid hz
  clear hz D
  go_wp2_with fail
  go_ret
  exact ⟨ret_bool HZ.out, hb⟩
set_option maxHeartbeats 400000 in
set_option maxRecDepth 100000 in
theorem rweight_any (w : World) (A : Option Addr) (n c : Nat) (l : List Rec) (hl : l.length = n) (hn : n ≤ 20000) (hs : ∀ r ∈ l, longB r = false) (hr : Row w w.heap.size A n 4 (recF l)) :
    Calls Tryz.prog 80 #[.slice A n c] w fun e w' => e = .returned (.int .i64 (weight l)) ∧ Below w.heap.size w w' := by
  have HL := Lib.hid hl
  have HS := Lib.hid hs
  have HT : Hid (∀ k, k ≤ n → 0 ≤ weight (l.take k) ∧ weight (l.take k) ≤ 160320000) := fun k hk => by
    have h := weight_le (l := l.take k) (fun r hr => hs r (List.mem_of_mem_take hr))
    have hk2 : (l.take k).length ≤ n := by rw [List.length_take]; omega
    omega
  clear hl hs
  go_enter Tryz.func80, Tryz.ntmps80
  go_wp2_with fail
  go_loopw [3, 8] (fun s i wx => ∃ (k : Nat) (x : Int), k ≤ n ∧ i = .int .i64 k ∧ s = .int .i64 x ∧ Hid (weight (l.take k) = x) ∧ Hid (Below w.heap.size w wx)) (fun _ i _ => n - (intOf i).toNat)
  case atStart => exact ⟨0, 0, by omega, rfl, rfl, rfl, Below.refl _ _⟩
  case round =>
    obtain ⟨k, x, hk, rfl, rfl, hx, HB⟩ := hrel
    by_cases hlt : k < n
    · obtain ⟨b, off, r, rfl, hbb, hg, c0, c1, c2, c3⟩ := Row.rec (hr.below HB.out) HL.out hlt
      have hxl := HT.out k hk
      rw [hx.out] at hxl
      have hlr := longB_false (HS.out r (List.mem_of_getElem? hg))
      have HW : Hid (weight (l.take (k + 1)) = x + weigh r) := by show _ = _; rw [weight_take hg, hx.out]
      unfold weigh at HW
      have x0 : (0 : Int) ≤ (k : Int) := by omega
      have x1 : (k : Int) < (n : Int) := by omega
      have s1 : IntKind.i64.wrap (16 + (r.source.size : Int)) = 16 + (r.source.size : Int) := IntWalk.i64_in _ (by omega)
      have s2 : IntKind.i64.wrap (16 + (r.source.size : Int) + (r.text.size : Int)) = 16 + (r.source.size : Int) + (r.text.size : Int) := IntWalk.i64_in _ (by omega)
      have s3 : IntKind.i64.wrap (x + (16 + (r.source.size : Int) + (r.text.size : Int))) = x + (16 + (r.source.size : Int) + (r.text.size : Int)) := IntWalk.i64_in _ (by omega)
      have HB2 := HB.out.size
      clear hg hx
      go_wp2_with fail
      go_roundw
      case measure => go_light; simp [intOf]; omega
      case rel => go_light; exact ⟨k + 1, x + (16 + (r.source.size : Int) + (r.text.size : Int)), by omega, by first | rfl | go_num, by first | rfl | go_num, HW.out, by have h := HB.out; show Below w.heap.size w _; (repeat (first | (with_reducible exact Below.refl _ _) | (with_reducible assumption) | (with_reducible refine Below.drew ?_) | (with_reducible refine below_drewN ?_ _) | ((with_reducible refine bel_set ?_ ?_); (focus (first | (simp; done) | (simp; omega) | omega | (simp at *; omega)))) | (with_reducible refine bel_alloc0 ?_) | (with_reducible refine bel_step0 (by assumption) ?_) | ((with_reducible refine bel_alloc ?_ ?_); (focus (first | (simp; done) | (simp; omega) | omega | (simp at *; omega)))) | ((with_reducible refine bel_step (by assumption) ?_ ?_); (focus (first | (simp; done) | (simp; omega) | omega | (simp at *; omega))))))⟩
    · obtain rfl : k = n := by omega
      have hx2 := hx.out
      rw [List.take_of_length_le (by rw [HL.out]; exact Nat.le_refl _)] at hx2
      have HX := Lib.hid hx2
      clear hx2 hx
      go_wp2_with fail
      go_ret
      exact ⟨by rw [HX.out]; rfl, HB.out⟩
set_option maxRecDepth 100000 in
theorem rcheck_any (w : World) (A : Option Addr) (n c : Nat) (l : List Rec) (hl : l.length = n) (hn : n ≤ 9223372036854775807) (hr : Row w w.heap.size A n 4 (recF l)) :
    Calls Tryz.prog 33 #[.slice A n c] w fun e w' => e = .returned (.int .i64 (chkE l)) ∧ Below w.heap.size w w' := by
  have D1 := Lib.hid (rcontains_any w A n c l hl hn hr)
  unfold chkE
  rw [hl]
  by_cases h1 : 20000 < n
  · rw [if_pos h1]
    have g1 : decide ((20000 : Int) < (n : Int)) = true := by simp; omega
    have g1' : decide (20000 < n) = true := by simp; omega
    clear h1 hl hr D1
    go_enter Tryz.func33, Tryz.ntmps33
    go_wp2_with fail
    go_ret
    exact ⟨rfl, Below.refl _ _⟩
  · rw [if_neg h1]
    have g1 : decide ((20000 : Int) < (n : Int)) = false := by simp; omega
    have g1' : decide (20000 < n) = false := by simp; omega
    cases hlo : l.any longB with
    | true =>
      rw [if_pos rfl]
      rw [hlo] at D1
      clear h1 hl hr hlo
      go_enter Tryz.func33, Tryz.ntmps33
      go_wp2_with fail
      refine D1.out.mono ?_
      rintro e w1 ⟨rfl, hb⟩
      go_wp2_with fail
      go_ret
      exact ⟨rfl, hb⟩
    | false =>
      rw [if_neg (by simp)]
      rw [hlo] at D1
      have hs : ∀ r ∈ l, longB r = false := fun r h => by
        have := List.any_eq_false.1 hlo r h
        simpa using this
      have D2 := Lib.hid (fun wx (hb : Below w.heap.size w wx) => rweight_any wx A n c l hl (by omega) hs ((hr.below hb).mono hb.size))
      generalize weight l = x at *
      by_cases h2 : 1048576 < x
      · rw [if_pos h2]
        have g2 : decide (1048576 < x) = true := by simpa using h2
        clear h1 hl hr hlo hs h2
        go_enter Tryz.func33, Tryz.ntmps33
        go_wp2_with fail
        refine D1.out.mono ?_
        rintro e w1 ⟨rfl, hb⟩
        have E2 := Lib.hid (D2.out w1 hb)
        clear D1 D2
        go_wp2_with fail
        refine E2.out.mono ?_
        rintro e w2 ⟨rfl, hb2⟩
        go_wp2_with fail
        go_ret
        exact ⟨rfl, bel_step0 hb2 hb⟩
      · rw [if_neg h2]
        have g2 : decide (1048576 < x) = false := by simpa using h2
        clear h1 hl hr hlo hs h2
        go_enter Tryz.func33, Tryz.ntmps33
        go_wp2_with fail
        refine D1.out.mono ?_
        rintro e w1 ⟨rfl, hb⟩
        have E2 := Lib.hid (D2.out w1 hb)
        clear D1 D2
        go_wp2_with fail
        refine E2.out.mono ?_
        rintro e w2 ⟨rfl, hb2⟩
        go_wp2_with fail
        go_ret
        exact ⟨rfl, bel_step0 hb2 hb⟩
end Go.Proofs.YtcafklmbehoggaaGreatDoor.Recs
namespace Go.Proofs.YtcafklmbehoggaaGreatDoor.NumPut
open Go.RowKit Go.Proofs.YtcafklmbehoggaaGreatDoor.Mem Go.Proofs.YtcafklmbehoggaaGreatDoor.Own Go.Proofs.YtcafklmbehoggaaGreatDoor.Canon
theorem big_step {X k : Nat} (h : X * 2 ^ (7 * k) < 18446744073709551616) (h128 : 128 ≤ X) : k + 1 ≤ 9 ∧ X / 128 * 2 ^ (7 * (k + 1)) < 18446744073709551616 := by
  have e : 2 ^ (7 * (k + 1)) = 128 * 2 ^ (7 * k) := by rw [show 7 * (k + 1) = 7 * k + 7 by omega, Nat.pow_add]; omega
  constructor
  · by_cases hk : k + 1 ≤ 9
    · exact hk
    · exfalso
      have h1 : 2 ^ 63 ≤ 2 ^ (7 * k) := Nat.pow_le_pow_right (by omega) (by omega)
      have h2 : 128 * 2 ^ 63 ≤ X * 2 ^ (7 * k) := Nat.mul_le_mul h128 h1
      omega
  · rw [e, ← Nat.mul_assoc]
    have : X / 128 * 128 * 2 ^ (7 * k) ≤ X * 2 ^ (7 * k) := Nat.mul_le_mul_right _ (Nat.div_mul_le_self _ _)
    omega
theorem numB_len10 : ∀ (x k : Nat), x * 2 ^ (7 * k) < 18446744073709551616 → k ≤ 9 → (numB x).length + k ≤ 10 := by
  intro x
  induction x using Nat.strongRecOn with
  | _ x ih =>
    intro k h hk
    by_cases h1 : x < 128
    · rw [numB_low h1]; simp; omega
    · obtain ⟨s1, s2⟩ := big_step h (by omega)
      have := ih (x / 128) (by omega) (k + 1) s2 s1
      rw [numB_high h1, List.length_cons]
      omega
theorem numB_len64 {x : Nat} (h : x < 18446744073709551616) : (numB x).length ≤ 10 := by
  have := numB_len10 x 0 (by simpa using h) (by omega)
  omega
set_option maxHeartbeats 1000000 in
set_option maxRecDepth 100000 in
theorem num64_any (w : World) (x : Nat) (hx : x < 18446744073709551616) :
    Calls Tryz.prog 83 #[.int .u64 x] w fun e w' => ∃ v, e = .returned v ∧ w'.ownsRow w.heap.size 5 1 v (numB x).length (numL .u8 (numB x)) ∧ Below w.heap.size w w' := by
  obtain ⟨j0, hj0, hy0, hy1, hy2⟩ := info_parts info_u8
  obtain ⟨R, hR⟩ : ∃ R, R = numB x := ⟨_, rfl⟩
  have HR0 : Hid ([] ++ numB x = R) := hR.symm
  have HX0 : Hid (x * 2 ^ (7 * 0) < 18446744073709551616) := by show _ < _; simpa using hx
  rw [← hR]
  clear hR
  go_enter Tryz.func83, Tryz.ntmps83
  go_wp2_with fail
  go_loopw [0, 3] (fun u v wr => ∃ (X k : Nat) (done : List Nat), u = .int .u64 X ∧ k ≤ 9 ∧ X < 18446744073709551616 ∧ Hid (X * 2 ^ (7 * k) < 18446744073709551616) ∧ Hid (done.length = k) ∧ Hid (done ++ numB X = R) ∧ Hid (wr.ownsRow w.heap.size 5 1 v k (numL .u8 done)) ∧ Hid (Below w.heap.size w wr)) (fun u _ _ => (intOf u).toNat)
  case atStart => exact ⟨x, 0, [], rfl, by omega, hx, HX0.out, rfl, HR0.out, World.ownsRow_nil _ _ _ _, Below.refl _ _⟩
  case round =>
    obtain ⟨X, k, done, rfl, hk, hX, HX, HL, HR, HO, HB⟩ := hrel
    clear HR0 HX0
    have zb := HB.out.size
    by_cases h128 : X < 128
    · have g1 : decide ((128 : Int) ≤ (X : Int)) = false := by simp; omega
      have g1' : decide (128 ≤ X) = false := by simp; omega
      have c1 : IntKind.u8.wrap (X : Int) = (X : Int) := by rw [IntKind.wrap_u8']; omega
      have HR2 : Hid (done ++ [X] = R) := by have h := HR.out; rw [numB_low h128] at h; exact h
      go_wp2_with (at_builtin; refine wpList_app rfl (.tmp 14) (.tmp 17) 29 rfl w.heap.size 5 j0 _ 1 1 Tryz.underlying29 hj0 hy0 hy1 hy2 rfl (by decide) _ _ _ (by rfl) (HO.out.alloc _) _ 1 1 [.int .u8 (X : Nat)] (by rfl) (Src.of_blk (g := wr.heap.size) (Blk.made _ _ _) 1 1 1 rfl) (by intro u hu; simp at hu; rcases hu with rfl; rfl) (by unfold maxLen; omega) (by omega) (by simp; omega) ?_; intro v4 w4 hown4 hg4 hat4)
      have hown5 : Hid (w4.ownsRow w.heap.size 5 1 v4 R.length (numL .u8 R)) := by
        rw [← HR2.out, List.length_append, HL.out, numL_end]
        exact hown4
      have hb5 : Hid (Below w.heap.size w w4) := (bel_alloc0 HB.out).grown hg4 (by simp; omega) (fun y hy => (World.ownsRow.lt HO.out y hy).1)
      go_ret
      exact ⟨_, rfl, hown5.out, hb5.out⟩
    · have g1 : decide ((128 : Int) ≤ (X : Int)) = true := by simp; omega
      have g1' : decide (128 ≤ X) = true := by simp; omega
      have c1 : IntKind.u8.wrap (X : Int) = ((X % 256 : Nat) : Int) := by rw [IntKind.wrap_u8']; omega
      have o1 : bits .or .u8 ((X % 256 : Nat) : Int) 128 = ((X % 128 + 128 : Nat) : Int) := by
        rw [show (128 : Int) = ((128 : Nat) : Int) from rfl, u8_or_nat _ _ (by omega) (by omega), or128 _ (by omega)]
        congr 1
        omega
      have HR2 : Hid ((done ++ [X % 128 + 128]) ++ numB (X / 128) = R) := by have h := HR.out; rw [numB_high h128] at h; rw [List.append_assoc]; exact h
      obtain ⟨hs1, hs2⟩ := big_step HX.out (by omega)
      have HX2 := Lib.hid hs2
      obtain ⟨b, hb⟩ : ∃ b, b = X % 128 + 128 := ⟨_, rfl⟩
      obtain ⟨a, ha⟩ : ∃ a, a = X % 256 := ⟨_, rfl⟩
      rw [← hb] at o1 HR2
      rw [← ha] at o1 c1
      clear hb ha hs2
      go_wp2_with (at_builtin; refine wpList_app rfl (.tmp 6) (.tmp 10) 29 rfl w.heap.size 5 j0 _ 1 1 Tryz.underlying29 hj0 hy0 hy1 hy2 rfl (by decide) _ _ _ (by rfl) (HO.out.alloc _) _ 1 1 [.int .u8 (b : Nat)] (by rfl) (Src.of_blk (g := wr.heap.size) (Blk.made _ _ _) 1 1 1 rfl) (by intro u hu; simp at hu; rcases hu with rfl; rfl) (by unfold maxLen; omega) (by omega) (by simp; omega) ?_; intro v4 w4 hown4 hg4 hat4)
      have HO5 : Hid (w4.ownsRow w.heap.size 5 1 v4 (k + 1) (numL .u8 (done ++ [b]))) := by rw [numL_end]; exact hown4
      have hb5 : Hid (Below w.heap.size w w4) := (bel_alloc0 HB.out).grown hg4 (by simp; omega) (fun y hy => (World.ownsRow.lt HO.out y hy).1)
      exact ⟨⟨X / 128, k + 1, done ++ [b], congrArg _ (by omega), by omega, by omega, HX2.out, by show _ = _; rw [List.length_append, HL.out]; rfl, HR2.out, HO5.out, hb5.out⟩, by simp [intOf]; omega⟩
set_option maxHeartbeats 1000000 in
set_option maxRecDepth 100000 in
theorem rnum64_any (w : World) (x : Nat) (hx : x < 18446744073709551616) :
    Calls Tryz.prog 75 #[.int .u64 x] w fun e w' => ∃ v, e = .returned v ∧ w'.ownsRow w.heap.size 5 1 v (numB x).length (numL .u8 (numB x)) ∧ Below w.heap.size w w' := by
  obtain ⟨j0, hj0, hy0, hy1, hy2⟩ := info_parts info_u8
  obtain ⟨R, hR⟩ : ∃ R, R = numB x := ⟨_, rfl⟩
  have HR0 : Hid ([] ++ numB x = R) := hR.symm
  have HX0 : Hid (x * 2 ^ (7 * 0) < 18446744073709551616) := by show _ < _; simpa using hx
  rw [← hR]
  clear hR
  go_enter Tryz.func75, Tryz.ntmps75
  go_wp2_with fail
  go_loopw [0, 3] (fun u v wr => ∃ (X k : Nat) (done : List Nat), u = .int .u64 X ∧ k ≤ 9 ∧ X < 18446744073709551616 ∧ Hid (X * 2 ^ (7 * k) < 18446744073709551616) ∧ Hid (done.length = k) ∧ Hid (done ++ numB X = R) ∧ Hid (wr.ownsRow w.heap.size 5 1 v k (numL .u8 done)) ∧ Hid (Below w.heap.size w wr)) (fun u _ _ => (intOf u).toNat)
  case atStart => exact ⟨x, 0, [], rfl, by omega, hx, HX0.out, rfl, HR0.out, World.ownsRow_nil _ _ _ _, Below.refl _ _⟩
  case round =>
    obtain ⟨X, k, done, rfl, hk, hX, HX, HL, HR, HO, HB⟩ := hrel
    clear HR0 HX0
    have zb := HB.out.size
    by_cases h128 : X < 128
    · have g1 : decide ((128 : Int) ≤ (X : Int)) = false := by simp; omega
      have g1' : decide (128 ≤ X) = false := by simp; omega
      have c1 : IntKind.u8.wrap (X : Int) = (X : Int) := by rw [IntKind.wrap_u8']; omega
      have HR2 : Hid (done ++ [X] = R) := by have h := HR.out; rw [numB_low h128] at h; exact h
      go_wp2_with (at_builtin; refine wpList_app rfl (.tmp 15) (.tmp 18) 29 rfl w.heap.size 5 j0 _ 1 1 Tryz.underlying29 hj0 hy0 hy1 hy2 rfl (by decide) _ _ _ (by rfl) (HO.out.alloc _) _ 1 1 [.int .u8 (X : Nat)] (by rfl) (Src.of_blk (g := wr.heap.size) (Blk.made _ _ _) 1 1 1 rfl) (by intro u hu; simp at hu; rcases hu with rfl; rfl) (by unfold maxLen; omega) (by omega) (by simp; omega) ?_; intro v4 w4 hown4 hg4 hat4)
      have hown5 : Hid (w4.ownsRow w.heap.size 5 1 v4 R.length (numL .u8 R)) := by
        rw [← HR2.out, List.length_append, HL.out, numL_end]
        exact hown4
      have hb5 : Hid (Below w.heap.size w w4) := (bel_alloc0 HB.out).grown hg4 (by simp; omega) (fun y hy => (World.ownsRow.lt HO.out y hy).1)
      go_ret
      exact ⟨_, rfl, hown5.out, hb5.out⟩
    · have g1 : decide ((128 : Int) ≤ (X : Int)) = true := by simp; omega
      have g1' : decide (128 ≤ X) = true := by simp; omega
      have c1 : IntKind.u64.wrap (128 + (X : Int) % 128) = ((X % 128 + 128 : Nat) : Int) := by rw [show IntKind.u64.wrap (128 + (X : Int) % 128) = (128 + (X : Int) % 128) % 18446744073709551616 from by simp [IntKind.wrap, IntKind.bits, IntKind.signed]]; omega
      have c2 : IntKind.u8.wrap ((X % 128 + 128 : Nat) : Int) = ((X % 128 + 128 : Nat) : Int) := by rw [IntKind.wrap_u8']; omega
      have HR2 : Hid ((done ++ [X % 128 + 128]) ++ numB (X / 128) = R) := by have h := HR.out; rw [numB_high h128] at h; rw [List.append_assoc]; exact h
      obtain ⟨hs1, hs2⟩ := big_step HX.out (by omega)
      have HX2 := Lib.hid hs2
      obtain ⟨b, hb⟩ : ∃ b, b = X % 128 + 128 := ⟨_, rfl⟩
      rw [← hb] at c1 c2 HR2
      clear hb hs2
      go_wp2_with (at_builtin; refine wpList_app rfl (.tmp 6) (.tmp 11) 29 rfl w.heap.size 5 j0 _ 1 1 Tryz.underlying29 hj0 hy0 hy1 hy2 rfl (by decide) _ _ _ (by rfl) (HO.out.alloc _) _ 1 1 [.int .u8 (b : Nat)] (by rfl) (Src.of_blk (g := wr.heap.size) (Blk.made _ _ _) 1 1 1 rfl) (by intro u hu; simp at hu; rcases hu with rfl; rfl) (by unfold maxLen; omega) (by omega) (by simp; omega) ?_; intro v4 w4 hown4 hg4 hat4)
      have HO5 : Hid (w4.ownsRow w.heap.size 5 1 v4 (k + 1) (numL .u8 (done ++ [b]))) := by rw [numL_end]; exact hown4
      have hb5 : Hid (Below w.heap.size w w4) := (bel_alloc0 HB.out).grown hg4 (by simp; omega) (fun y hy => (World.ownsRow.lt HO.out y hy).1)
      exact ⟨⟨X / 128, k + 1, done ++ [b], congrArg _ (by omega), by omega, by omega, HX2.out, by show _ = _; rw [List.length_append, HL.out]; rfl, HR2.out, HO5.out, hb5.out⟩, by simp [intOf]; omega⟩
def sB (s : ByteArray) : List Nat := s.data.toList.map UInt8.toNat
theorem sB_length (s : ByteArray) : (sB s).length = s.size := by
  unfold sB
  rw [List.length_map, Array.length_toList]
  rfl
theorem sB_u8 (s : ByteArray) : ∀ x ∈ sB s, x ≤ 255 := fun x hx => by
  obtain ⟨c, _, rfl⟩ := List.mem_map.1 hx
  have := c.toNat_lt
  omega
theorem sB_cells (s : ByteArray) : numL .u8 (sB s) = Lib.strCells s := by
  unfold numL sB Lib.strCells
  rw [List.map_map]
  rfl
def textB (s : ByteArray) : List Nat := numB s.size ++ sB s
theorem textB_u8 (s : ByteArray) : ∀ x ∈ textB s, x ≤ 255 := fun x hx => by
  rcases List.mem_append.1 hx with hx | hx
  · exact numB_u8 _ x hx
  · exact sB_u8 s x hx
theorem textB_len {s : ByteArray} (h : s.size ≤ 100000) : (textB s).length ≤ 3 + s.size ∧ s.size < (textB s).length := by
  have h1 : (numB s.size).length ≤ 3 := by
    by_cases h1 : s.size < 128
    · rw [numB_low h1]; simp
    · rw [numB_high h1, List.length_cons]
      by_cases h2 : s.size / 128 < 128
      · rw [numB_low h2]; simp
      · rw [numB_high h2, numB_low (by omega)]; simp
  have h2 : 1 ≤ (numB s.size).length := by
    by_cases h1 : s.size < 128
    · rw [numB_low h1]; simp
    · rw [numB_high h1, List.length_cons]; omega
  unfold textB
  rw [List.length_append, sB_length]
  omega
theorem info_u8s : (Tryz.prog.info? 5).map (fun i => (i.zero, i.size, i.bytes)) = some (some (.int .u8 0), 1, 1) := by kernel_rfl
set_option maxRecDepth 100000 in
theorem text_any (w : World) (s : ByteArray) (hs : s.size ≤ 100000) :
    Calls Tryz.prog 135 #[.string s] w fun e w' => ∃ v, e = .returned v ∧ w'.ownsRow w.heap.size 5 1 v (textB s).length (numL .u8 (textB s)) ∧ Below w.heap.size w w' := by
  obtain ⟨j0, hj0, hy0, hy1, hy2⟩ := info_parts info_u8s
  have D := Lib.hid (num64_any w s.size (by omega))
  have hl := numB_len64 (x := s.size) (by omega)
  have u1 : IntKind.u64.wrap (s.size : Int) = (s.size : Int) := by rw [IntKind.wrap_u64]; omega
  have HT : Hid (numL .u8 (textB s) = numL .u8 (numB s.size) ++ Lib.strCells s ∧ (textB s).length = (numB s.size).length + s.size) := ⟨by rw [← sB_cells]; simp [textB, numL], by unfold textB; rw [List.length_append, sB_length]⟩
  generalize textB s = T at *
  generalize numB s.size = X at *
  obtain ⟨k, hk⟩ : ∃ k, k = X.length := ⟨_, rfl⟩
  rw [← hk] at D hl HT
  clear hk
  go_enter Tryz.func135, Tryz.ntmps135
  go_wp2_with fail
  refine D.out.mono ?_
  rintro e w1 ⟨v, rfl, ho, hb⟩
  have HO := Lib.hid ho
  have HB := Lib.hid hb
  have hz := hb.size
  clear ho hb D
  go_wp2_with (at_builtin; refine Lib.wpList_append_own_string w1 rfl (.tmp 6) (.tmp 7) 29 9 rfl w.heap.size 5 j0 Tryz.underlying29 Tryz.underlying9 hj0 hy0 hy1 hy2 _ k _ (by rfl) HO.out s (by rfl) (by unfold maxLen; omega) (by omega) hz ?_; intro v4 w4 hown4 hg4 hnil4; have HB4 : Hid (Below w.heap.size w w4) := HB.out.grown hg4 hz (fun y hy => (World.ownsRow.lt HO.out y hy).1); have HO4 : Hid (w4.ownsRow w.heap.size 5 1 v4 T.length (numL .u8 T)) := (by rw [HT.out.1, HT.out.2]; exact hown4); clear hown4 hg4 hnil4)
  go_ret
  exact ⟨_, rfl, HO4.out, HB4.out⟩
end Go.Proofs.YtcafklmbehoggaaGreatDoor.NumPut
namespace Go.Proofs.YtcafklmbehoggaaGreatDoor.Recs
open Go.RowKit Go.Proofs.YtcafklmbehoggaaGreatDoor.Mem Go.Proofs.YtcafklmbehoggaaGreatDoor.Own Go.Proofs.YtcafklmbehoggaaGreatDoor.Canon Go.Proofs.YtcafklmbehoggaaGreatDoor.NumPut
open Go.Proofs.YtcafklmbehoggaaGreatDoor.Nums (step_app)
open Go.Proofs.YtcafklmbehoggaaGreatDoor.Block (part_own)
def RecOk (r : Rec) : Prop := 0 ≤ r.time ∧ r.time < 18446744073709551616 ∧ 0 ≤ r.level ∧ r.level ≤ 255
def headB (wh : Bool) (r : Rec) : List Nat := if wh = true then numB r.time.toNat ++ [r.level.toNat] else []
def oneB (wh : Bool) (r : Rec) : List Nat := headB wh r ++ (textB r.source ++ textB r.text)
theorem headB_len (wh : Bool) {r : Rec} (h : RecOk r) : (headB wh r).length ≤ 11 := by
  unfold headB
  split
  · have := numB_len64 (x := r.time.toNat) (by have := h.1; have := h.2.1; omega)
    rw [List.length_append]
    simp
    omega
  · simp
theorem headB_u8 (wh : Bool) {r : Rec} (h : RecOk r) : ∀ x ∈ headB wh r, x ≤ 255 := by
  unfold headB
  split
  · intro x hx
    rcases List.mem_append.1 hx with hx | hx
    · exact numB_u8 _ x hx
    · simp at hx
      have := h.2.2
      omega
  · intro x hx; cases hx
theorem oneB_u8 (wh : Bool) {r : Rec} (h : RecOk r) : ∀ x ∈ oneB wh r, x ≤ 255 := fun x hx => by
  unfold oneB at hx
  simp only [List.mem_append] at hx
  rcases hx with hx | hx | hx
  · exact headB_u8 wh h x hx
  · exact textB_u8 _ x hx
  · exact textB_u8 _ x hx
theorem oneB_len (wh : Bool) {r : Rec} (h : RecOk r) (hl : longB r = false) : (oneB wh r).length ≤ 17 + r.source.size + r.text.size ∧ 2 ≤ (oneB wh r).length := by
  obtain ⟨h1, h2⟩ := longB_false hl
  have a := headB_len wh h
  have b := textB_len (s := r.source) (by omega)
  have c := textB_len (s := r.text) (by omega)
  unfold oneB
  rw [List.length_append, List.length_append]
  omega
def OnePost (wh : Bool) (r : Rec) (w : World) (e : Ending) (w' : World) : Prop :=
  ∃ v, e = .returned v ∧ w'.ownsRow w.heap.size 5 1 v (oneB wh r).length (numL .u8 (oneB wh r)) ∧ Below w.heap.size w w'
set_option maxHeartbeats 2000000 in
set_option maxRecDepth 100000 in
theorem one_any (w : World) (wh : Bool) (r : Rec) (hr : RecOk r) (hl : longB r = false) :
    Calls Tryz.prog 81 #[.bool wh, r.val] w (OnePost wh r w) := by
  obtain ⟨j0, hj0, hy0, hy1, hy2⟩ := info_parts info_u8
  obtain ⟨h1, h2⟩ := longB_false hl
  obtain ⟨t1, t2, l1, l2⟩ := hr
  have hhl := headB_len wh (r := r) ⟨t1, t2, l1, l2⟩
  have b1 := textB_len (s := r.source) (by omega)
  have b2 := textB_len (s := r.text) (by omega)
  unfold OnePost oneB
  obtain ⟨tm, lv, src, txt⟩ := r
  obtain ⟨t, rfl⟩ := Int.eq_ofNat_of_zero_le t1
  obtain ⟨l, rfl⟩ := Int.eq_ofNat_of_zero_le l1
  unfold Rec.val
  simp only at *
  clear hl
  have D1 := Lib.hid (fun wx => num64_any wx t (by omega))
  have D2 := Lib.hid (fun wx => text_any wx src (by omega))
  have D3 := Lib.hid (fun wx => text_any wx txt (by omega))
  cases wh with
  | true =>
    have HH : Hid (headB true ⟨(t : Nat), (l : Nat), src, txt⟩ = numB t ++ [l]) := rfl
    have hnl := numB_len64 (x := t) (by omega)
    generalize headB true ⟨(t : Nat), (l : Nat), src, txt⟩ = H at *
    generalize numB t = N1 at *
    generalize textB src = T1 at *
    generalize textB txt = T2 at *
    go_enter Tryz.func81, Tryz.ntmps81
    go_upto_region 3 with fail
    have hba : Blk (w.alloc (.cells #[.int .u64 t, .int .u8 l, .string src, .string txt] 66)) w.heap.size 66 #[.int .u64 t, .int .u8 l, .string src, .string txt] := Blk.made _ _ _
    have hbw : Below w.heap.size w (w.alloc (.cells #[.int .u64 t, .int .u8 l, .string src, .string txt] 66)) := bel_alloc0 (Below.refl _ _)
    have hzw : (w.alloc (.cells #[.int .u64 t, .int .u8 l, .string src, .string txt] 66)).heap.size = w.heap.size + 1 := by simp
    generalize w.alloc (.cells #[.int .u64 t, .int .u8 l, .string src, .string txt] 66) = wa at *
    have HBA := Lib.hid hba
    have HBW := Lib.hid hbw
    have hzw2 : w.heap.size < wa.heap.size := by omega
    have HS : Hid (∀ wx, Below wa.heap.size wa wx → wx.cell? ⟨w.heap.size, 0, none⟩ = some (.int .u64 t) ∧ wx.cell? ⟨w.heap.size, 1, none⟩ = some (.int .u8 l)) := fun wx h => ⟨(hba.step h).cell 0, (hba.step h).cell 1⟩
    clear hba hbw hzw
    go_region_held3 (fun wx => wx.cell? ⟨w.heap.size, 0, none⟩ = some (.int .u64 t) ∧ wx.cell? ⟨w.heap.size, 1, none⟩ = some (.int .u8 l)) (first | exact HS.out _ ((Below.refl _ _).drew) | exact HS.out _ HB4 | exact HS.out _ HB1 | exact HS.out _ (Below.drew (bel_alloc0 (Below.refl _ _))) | exact HS.out _ (bel_alloc (Below.size HB1) HB1) | (refine HS.out _ ?_; (repeat (first | (with_reducible exact Below.refl _ _) | (with_reducible assumption) | (with_reducible refine Below.drew ?_) | (with_reducible refine below_drewN ?_ _) | ((with_reducible refine bel_set ?_ ?_); (focus (first | (simp; done) | (simp; omega) | omega | (simp at *; omega)))) | (with_reducible refine bel_alloc0 ?_) | (with_reducible refine bel_step0 (by assumption) ?_) | ((with_reducible refine bel_alloc ?_ ?_); (focus (first | (simp; done) | (simp; omega) | omega | (simp at *; omega)))) | ((with_reducible refine bel_step (by assumption) ?_ ?_); (focus (first | (simp; done) | (simp; omega) | omega | (simp at *; omega))))))))
      (first | (go_at_call 83; (with_reducible refine (D1.out _).mono ?_); rintro e w1 ⟨v, rfl, ho1, hb1⟩; obtain ⟨A1, c1, rfl⟩ := own_shape ho1; have HB1 : Below wa.heap.size wa w1 := bel_step hb1 (by simp) (by (repeat (first | (with_reducible exact Below.refl _ _) | (with_reducible assumption) | (with_reducible refine Below.drew ?_) | (with_reducible refine below_drewN ?_ _) | ((with_reducible refine bel_set ?_ ?_); (focus (first | (simp; done) | (simp; omega) | omega | (simp at *; omega)))) | (with_reducible refine bel_alloc0 ?_) | (with_reducible refine bel_step0 (by assumption) ?_) | ((with_reducible refine bel_alloc ?_ ?_); (focus (first | (simp; done) | (simp; omega) | omega | (simp at *; omega)))) | ((with_reducible refine bel_step (by assumption) ?_ ?_); (focus (first | (simp; done) | (simp; omega) | omega | (simp at *; omega))))))); have hz1 := HB1.size; have HO1 : w1.ownsRow wa.heap.size 5 1 (.slice A1 N1.length c1) N1.length (numL .u8 N1) := own_mono ho1 (by simp)) | (refine step_app rfl (.tmp 9) (.tmp 12) 29 rfl wa.heap.size 5 j0 _ 1 1 Tryz.underlying29 hj0 hy0 hy1 hy2 rfl (by decide) (.slice A1 N1.length c1) N1.length (numL .u8 N1) (by rfl) (by first | exact HO1 | exact HO1.alloc _) _ 1 1 [.int .u8 l] (by rfl) (by first | exact Src.of_blk (g := w1.heap.size) (Blk.made _ _ _) 1 1 1 rfl | exact Src.of_blk (g := wa.heap.size) ((Blk.drew (Blk.made _ _ _)).step hb1) 1 1 1 rfl | exact Src.of_blk (g := wa.heap.size) (Blk.step (Blk.made _ _ _) hb1) 1 1 1 rfl) (by intro u hu; simp at hu; rcases hu with rfl; rfl) (by unfold maxLen; omega) (by omega) (by first | omega | (simp; done) | (simp; omega)) ?_; intro A4 c4 w4 hown4 hg4; have HB4 : Below wa.heap.size wa w4 := Below.grown (by first | exact HB1 | exact HB1.alloc hz1 _) hg4 (by first | omega | (simp; done) | (simp; omega)) (fun y hy => (World.ownsRow.lt HO1 y hy).1)))
    all_goals
      have P4 : Hid (Part.Ok (⟨A4, c4, H⟩ : Part) w4) := by
        rw [HH.out]
        have e1 : (N1 ++ [l]).length = N1.length + 1 := by rw [List.length_append]; rfl
        refine part_own (base := wa.heap.size) (ls := N1 ++ [l]) (n := (N1 ++ [l]).length) ?_ rfl
        rw [e1, numL_end]
        exact hown4
      have HB4' : Hid (Below w.heap.size w w4) := HBW.out.trans (HB4.mono (by omega))
      have HS2 : Hid (∀ wx, Below w4.heap.size w4 wx → wx.cell? ⟨w.heap.size, 2, none⟩ = some (.string src) ∧ wx.cell? ⟨w.heap.size, 3, none⟩ = some (.string txt)) := fun wx h => ⟨((HBA.out.step HB4).step h).cell 2, ((HBA.out.step HB4).step h).cell 3⟩
      have hs3 : ∀ a1 a2 a3 a4 a5 a6, sumL [(⟨a1, a2, H⟩ : Part), ⟨a3, a4, T1⟩, ⟨a5, a6, T2⟩] ≤ 1000000 := fun _ _ _ _ _ _ => by simp [sumL]; omega
      have HHL : Hid (H.length = N1.length + 1) := by show _ = _; rw [HH.out, List.length_append]; rfl
      have hH1 : H.length = N1.length + 1 := HHL.out
      rw [← hH1]
      clear HS HBA HB4 hown4 hg4 HO1 hb1 ho1 HB1 hz1 HBW D1 hH1 HHL HH
      go_upto_region 4 with fail
      go_region_held3 (fun wx => wx.cell? ⟨w.heap.size, 2, none⟩ = some (.string src) ∧ wx.cell? ⟨w.heap.size, 3, none⟩ = some (.string txt)) (first | exact HS2.out _ ((Below.refl _ _).drew) | exact HS2.out _ BA | exact HS2.out _ BB | (refine HS2.out _ ?_; (repeat (first | (with_reducible exact Below.refl _ _) | (with_reducible assumption) | (with_reducible refine Below.drew ?_) | (with_reducible refine below_drewN ?_ _) | ((with_reducible refine bel_set ?_ ?_); (focus (first | (simp; done) | (simp; omega) | omega | (simp at *; omega)))) | (with_reducible refine bel_alloc0 ?_) | (with_reducible refine bel_step0 (by assumption) ?_) | ((with_reducible refine bel_alloc ?_ ?_); (focus (first | (simp; done) | (simp; omega) | omega | (simp at *; omega)))) | ((with_reducible refine bel_step (by assumption) ?_ ?_); (focus (first | (simp; done) | (simp; omega) | omega | (simp at *; omega)))))))) (first | (go_at_call 135; first | ((with_reducible refine (D2.out _).mono ?_); rintro e wA ⟨vA, rfl, hoA, hbA⟩; obtain ⟨AA, cA, rfl⟩ := own_shape hoA; have BA : Below w4.heap.size w4 wA := bel_step hbA (by first | omega | (simp; done) | (simp; omega)) (by (repeat (first | (with_reducible exact Below.refl _ _) | (with_reducible assumption) | (with_reducible refine Below.drew ?_) | (with_reducible refine below_drewN ?_ _) | ((with_reducible refine bel_set ?_ ?_); (focus (first | (simp; done) | (simp; omega) | omega | (simp at *; omega)))) | (with_reducible refine bel_alloc0 ?_) | (with_reducible refine bel_step0 (by assumption) ?_) | ((with_reducible refine bel_alloc ?_ ?_); (focus (first | (simp; done) | (simp; omega) | omega | (simp at *; omega)))) | ((with_reducible refine bel_step (by assumption) ?_ ?_); (focus (first | (simp; done) | (simp; omega) | omega | (simp at *; omega))))))); have zA := BA.size; have PA : Part.Ok (⟨AA, cA, T1⟩ : Part) wA := part_own hoA rfl; have kA := hbA) | ((with_reducible refine (D3.out _).mono ?_); rintro e wB ⟨vB, rfl, hoB, hbB⟩; obtain ⟨AB, cB, rfl⟩ := own_shape hoB; have BB : Below w4.heap.size w4 wB := bel_step hbB (by first | omega | (simp; done) | (simp; omega)) (by (repeat (first | (with_reducible exact Below.refl _ _) | (with_reducible assumption) | (with_reducible refine Below.drew ?_) | (with_reducible refine below_drewN ?_ _) | ((with_reducible refine bel_set ?_ ?_); (focus (first | (simp; done) | (simp; omega) | omega | (simp at *; omega)))) | (with_reducible refine bel_alloc0 ?_) | (with_reducible refine bel_step0 (by assumption) ?_) | ((with_reducible refine bel_alloc ?_ ?_); (focus (first | (simp; done) | (simp; omega) | omega | (simp at *; omega)))) | ((with_reducible refine bel_step (by assumption) ?_ ?_); (focus (first | (simp; done) | (simp; omega) | omega | (simp at *; omega))))))); have zB := BB.size; have PB : Part.Ok (⟨AB, cB, T2⟩ : Part) wB := part_own hoB rfl; have kB := hbB)) | (go_at_call 43; (refine (all_any _ _ 3 [(⟨A4, c4, H⟩ : Part), (⟨AA, cA, T1⟩ : Part), (⟨AB, cB, T2⟩ : Part)] rfl (by omega) (hs3 _ _ _ _ _ _) (fun p hp => by { rcases List.mem_cons.1 hp with rfl | hp; exact P4.out.step (by (repeat (first | (with_reducible exact Below.refl _ _) | (with_reducible assumption) | (with_reducible refine Below.drew ?_) | (with_reducible refine below_drewN ?_ _) | ((with_reducible refine bel_set ?_ ?_); (focus (first | (simp; done) | (simp; omega) | omega | (simp at *; omega)))) | (with_reducible refine bel_alloc0 ?_) | (with_reducible refine bel_step0 (by assumption) ?_) | ((with_reducible refine bel_alloc ?_ ?_); (focus (first | (simp; done) | (simp; omega) | omega | (simp at *; omega)))) | ((with_reducible refine bel_step (by assumption) ?_ ?_); (focus (first | (simp; done) | (simp; omega) | omega | (simp at *; omega))))))); rcases List.mem_cons.1 hp with rfl | hp; exact PA.step (by (repeat (first | (with_reducible exact Below.refl _ _) | (with_reducible assumption) | (with_reducible refine Below.drew ?_) | (with_reducible refine below_drewN ?_ _) | ((with_reducible refine bel_set ?_ ?_); (focus (first | (simp; done) | (simp; omega) | omega | (simp at *; omega)))) | (with_reducible refine bel_alloc0 ?_) | (with_reducible refine bel_step0 (by assumption) ?_) | ((with_reducible refine bel_alloc ?_ ?_); (focus (first | (simp; done) | (simp; omega) | omega | (simp at *; omega)))) | ((with_reducible refine bel_step (by assumption) ?_ ?_); (focus (first | (simp; done) | (simp; omega) | omega | (simp at *; omega))))))); rcases List.mem_cons.1 hp with rfl | hp; exact PB.step (by (repeat (first | (with_reducible exact Below.refl _ _) | (with_reducible assumption) | (with_reducible refine Below.drew ?_) | (with_reducible refine below_drewN ?_ _) | ((with_reducible refine bel_set ?_ ?_); (focus (first | (simp; done) | (simp; omega) | omega | (simp at *; omega)))) | (with_reducible refine bel_alloc0 ?_) | (with_reducible refine bel_step0 (by assumption) ?_) | ((with_reducible refine bel_alloc ?_ ?_); (focus (first | (simp; done) | (simp; omega) | omega | (simp at *; omega)))) | ((with_reducible refine bel_step (by assumption) ?_ ?_); (focus (first | (simp; done) | (simp; omega) | omega | (simp at *; omega))))))); cases hp }) (by first | exact Blk.made _ _ _ | exact Blk.drew (Blk.made _ _ _))).mono ?_); rintro e w7 ⟨v7, rfl, ho7, hb7⟩; obtain ⟨A7, c7, rfl⟩ := own_shape ho7; have B7 : Below w4.heap.size w4 w7 := bel_step hb7 (by first | omega | (simp; done) | (simp; omega)) (by (repeat (first | (with_reducible exact Below.refl _ _) | (with_reducible assumption) | (with_reducible refine Below.drew ?_) | (with_reducible refine below_drewN ?_ _) | ((with_reducible refine bel_set ?_ ?_); (focus (first | (simp; done) | (simp; omega) | omega | (simp at *; omega)))) | (with_reducible refine bel_alloc0 ?_) | (with_reducible refine bel_step0 (by assumption) ?_) | ((with_reducible refine bel_alloc ?_ ?_); (focus (first | (simp; done) | (simp; omega) | omega | (simp at *; omega)))) | ((with_reducible refine bel_step (by assumption) ?_ ?_); (focus (first | (simp; done) | (simp; omega) | omega | (simp at *; omega)))))))))
      have HB7 : Hid (Below w.heap.size w w7) := HB4'.out.trans (B7.mono HB4'.out.size)
      have HO7 := Lib.hid (own_mono ho7 (show w.heap.size ≤ _ by have := HB4'.out.size; have := zA; have := zB; first | omega | (simp; omega)))
      go_wp2_with fail
      go_ret
      refine ⟨_, rfl, ?_, HB7.out⟩
      have h := HO7.out
      simp only [List.flatMap_cons, List.flatMap_nil, List.append_nil] at h
      rw [List.length_append, List.length_append] at h ⊢
      exact h
  | false =>
    have hhf : headB false ⟨(t : Nat), (l : Nat), src, txt⟩ = [] := rfl
    rw [hhf, List.nil_append]
    clear hhl hhf D1
    generalize textB src = T1 at *
    generalize textB txt = T2 at *
    go_enter Tryz.func81, Tryz.ntmps81
    go_upto_region 4 with fail
    have hba : Blk (w.alloc (.cells #[.int .u64 t, .int .u8 l, .string src, .string txt] 66)) w.heap.size 66 #[.int .u64 t, .int .u8 l, .string src, .string txt] := Blk.made _ _ _
    have hbw : Below w.heap.size w (w.alloc (.cells #[.int .u64 t, .int .u8 l, .string src, .string txt] 66)) := bel_alloc0 (Below.refl _ _)
    have hzw : (w.alloc (.cells #[.int .u64 t, .int .u8 l, .string src, .string txt] 66)).heap.size = w.heap.size + 1 := by simp
    generalize w.alloc (.cells #[.int .u64 t, .int .u8 l, .string src, .string txt] 66) = wa at *
    have hzw2 : w.heap.size < wa.heap.size := by omega
    have HBW := Lib.hid hbw
    have HS2 : Hid (∀ wx, Below wa.heap.size wa wx → wx.cell? ⟨w.heap.size, 2, none⟩ = some (.string src) ∧ wx.cell? ⟨w.heap.size, 3, none⟩ = some (.string txt)) := fun wx h => ⟨(hba.step h).cell 2, (hba.step h).cell 3⟩
    have P4 : Hid (Part.Ok (⟨none, 0, ([] : List Nat)⟩ : Part) wa) := ⟨Row.zero, fun _ => ⟨rfl, rfl⟩⟩
    have hs3 : ∀ (a1 : Option Addr) (a2 : Nat) a3 a4 a5 a6, sumL [(⟨a1, a2, ([] : List Nat)⟩ : Part), ⟨a3, a4, T1⟩, ⟨a5, a6, T2⟩] ≤ 1000000 := fun _ _ _ _ _ _ => by simp [sumL]; omega
    clear hba hbw hzw
    go_region_held3 (fun wx => wx.cell? ⟨w.heap.size, 2, none⟩ = some (.string src) ∧ wx.cell? ⟨w.heap.size, 3, none⟩ = some (.string txt)) (first | exact HS2.out _ ((Below.refl _ _).drew) | exact HS2.out _ BA | exact HS2.out _ BB | (refine HS2.out _ ?_; (repeat (first | (with_reducible exact Below.refl _ _) | (with_reducible assumption) | (with_reducible refine Below.drew ?_) | (with_reducible refine below_drewN ?_ _) | ((with_reducible refine bel_set ?_ ?_); (focus (first | (simp; done) | (simp; omega) | omega | (simp at *; omega)))) | (with_reducible refine bel_alloc0 ?_) | (with_reducible refine bel_step0 (by assumption) ?_) | ((with_reducible refine bel_alloc ?_ ?_); (focus (first | (simp; done) | (simp; omega) | omega | (simp at *; omega)))) | ((with_reducible refine bel_step (by assumption) ?_ ?_); (focus (first | (simp; done) | (simp; omega) | omega | (simp at *; omega)))))))) (first | (go_at_call 135; first | ((with_reducible refine (D2.out _).mono ?_); rintro e wA ⟨vA, rfl, hoA, hbA⟩; obtain ⟨AA, cA, rfl⟩ := own_shape hoA; have BA : Below wa.heap.size wa wA := bel_step hbA (by first | omega | (simp; done) | (simp; omega)) (by (repeat (first | (with_reducible exact Below.refl _ _) | (with_reducible assumption) | (with_reducible refine Below.drew ?_) | (with_reducible refine below_drewN ?_ _) | ((with_reducible refine bel_set ?_ ?_); (focus (first | (simp; done) | (simp; omega) | omega | (simp at *; omega)))) | (with_reducible refine bel_alloc0 ?_) | (with_reducible refine bel_step0 (by assumption) ?_) | ((with_reducible refine bel_alloc ?_ ?_); (focus (first | (simp; done) | (simp; omega) | omega | (simp at *; omega)))) | ((with_reducible refine bel_step (by assumption) ?_ ?_); (focus (first | (simp; done) | (simp; omega) | omega | (simp at *; omega))))))); have zA := BA.size; have PA : Part.Ok (⟨AA, cA, T1⟩ : Part) wA := part_own hoA rfl; have kA := hbA) | ((with_reducible refine (D3.out _).mono ?_); rintro e wB ⟨vB, rfl, hoB, hbB⟩; obtain ⟨AB, cB, rfl⟩ := own_shape hoB; have BB : Below wa.heap.size wa wB := bel_step hbB (by first | omega | (simp; done) | (simp; omega)) (by (repeat (first | (with_reducible exact Below.refl _ _) | (with_reducible assumption) | (with_reducible refine Below.drew ?_) | (with_reducible refine below_drewN ?_ _) | ((with_reducible refine bel_set ?_ ?_); (focus (first | (simp; done) | (simp; omega) | omega | (simp at *; omega)))) | (with_reducible refine bel_alloc0 ?_) | (with_reducible refine bel_step0 (by assumption) ?_) | ((with_reducible refine bel_alloc ?_ ?_); (focus (first | (simp; done) | (simp; omega) | omega | (simp at *; omega)))) | ((with_reducible refine bel_step (by assumption) ?_ ?_); (focus (first | (simp; done) | (simp; omega) | omega | (simp at *; omega))))))); have zB := BB.size; have PB : Part.Ok (⟨AB, cB, T2⟩ : Part) wB := part_own hoB rfl; have kB := hbB)) | (go_at_call 43; (refine (all_any _ _ 3 [(⟨none, 0, ([] : List Nat)⟩ : Part), (⟨AA, cA, T1⟩ : Part), (⟨AB, cB, T2⟩ : Part)] rfl (by omega) (hs3 _ _ _ _ _ _) (fun p hp => by { rcases List.mem_cons.1 hp with rfl | hp; exact P4.out.step (by (repeat (first | (with_reducible exact Below.refl _ _) | (with_reducible assumption) | (with_reducible refine Below.drew ?_) | (with_reducible refine below_drewN ?_ _) | ((with_reducible refine bel_set ?_ ?_); (focus (first | (simp; done) | (simp; omega) | omega | (simp at *; omega)))) | (with_reducible refine bel_alloc0 ?_) | (with_reducible refine bel_step0 (by assumption) ?_) | ((with_reducible refine bel_alloc ?_ ?_); (focus (first | (simp; done) | (simp; omega) | omega | (simp at *; omega)))) | ((with_reducible refine bel_step (by assumption) ?_ ?_); (focus (first | (simp; done) | (simp; omega) | omega | (simp at *; omega))))))); rcases List.mem_cons.1 hp with rfl | hp; exact PA.step (by (repeat (first | (with_reducible exact Below.refl _ _) | (with_reducible assumption) | (with_reducible refine Below.drew ?_) | (with_reducible refine below_drewN ?_ _) | ((with_reducible refine bel_set ?_ ?_); (focus (first | (simp; done) | (simp; omega) | omega | (simp at *; omega)))) | (with_reducible refine bel_alloc0 ?_) | (with_reducible refine bel_step0 (by assumption) ?_) | ((with_reducible refine bel_alloc ?_ ?_); (focus (first | (simp; done) | (simp; omega) | omega | (simp at *; omega)))) | ((with_reducible refine bel_step (by assumption) ?_ ?_); (focus (first | (simp; done) | (simp; omega) | omega | (simp at *; omega))))))); rcases List.mem_cons.1 hp with rfl | hp; exact PB.step (by (repeat (first | (with_reducible exact Below.refl _ _) | (with_reducible assumption) | (with_reducible refine Below.drew ?_) | (with_reducible refine below_drewN ?_ _) | ((with_reducible refine bel_set ?_ ?_); (focus (first | (simp; done) | (simp; omega) | omega | (simp at *; omega)))) | (with_reducible refine bel_alloc0 ?_) | (with_reducible refine bel_step0 (by assumption) ?_) | ((with_reducible refine bel_alloc ?_ ?_); (focus (first | (simp; done) | (simp; omega) | omega | (simp at *; omega)))) | ((with_reducible refine bel_step (by assumption) ?_ ?_); (focus (first | (simp; done) | (simp; omega) | omega | (simp at *; omega))))))); cases hp }) (by first | exact Blk.made _ _ _ | exact Blk.drew (Blk.made _ _ _))).mono ?_); rintro e w7 ⟨v7, rfl, ho7, hb7⟩; obtain ⟨A7, c7, rfl⟩ := own_shape ho7; have B7 : Below wa.heap.size wa w7 := bel_step hb7 (by first | omega | (simp; done) | (simp; omega)) (by (repeat (first | (with_reducible exact Below.refl _ _) | (with_reducible assumption) | (with_reducible refine Below.drew ?_) | (with_reducible refine below_drewN ?_ _) | ((with_reducible refine bel_set ?_ ?_); (focus (first | (simp; done) | (simp; omega) | omega | (simp at *; omega)))) | (with_reducible refine bel_alloc0 ?_) | (with_reducible refine bel_step0 (by assumption) ?_) | ((with_reducible refine bel_alloc ?_ ?_); (focus (first | (simp; done) | (simp; omega) | omega | (simp at *; omega)))) | ((with_reducible refine bel_step (by assumption) ?_ ?_); (focus (first | (simp; done) | (simp; omega) | omega | (simp at *; omega)))))))))
    have HB7 : Hid (Below w.heap.size w w7) := HBW.out.trans (B7.mono HBW.out.size)
    have HO7 := Lib.hid (own_mono ho7 (show w.heap.size ≤ _ by have := HBW.out.size; have := zA; have := zB; first | omega | (simp; omega)))
    go_wp2_with fail
    go_ret
    refine ⟨_, rfl, ?_, HB7.out⟩
    have h := HO7.out
    simp only [List.flatMap_cons, List.flatMap_nil, List.append_nil, List.nil_append] at h
    rw [List.length_append] at h ⊢
    exact h
theorem src_row7 {w : World} {base n c : Nat} {A : Option Addr} {xs : List Value} (h : w.ownsRow base 5 1 (.slice A n c) n xs) : Src w A n c 1 xs := by
  obtain ⟨h0, h1⟩ := h
  refine ⟨h0, ?_⟩
  rcases h1 with ⟨hv, _⟩ | ⟨g, cap, cur, hv, _, hh, _, _, _, htake⟩
  · injection hv with e1 e2 e3
    exact .inl ⟨e1, e2, e3⟩
  · injection hv with e1 e2 e3
    refine .inr ⟨⟨g, 0, none⟩, e1, fun j u hu => ?_⟩
    rw [add_none, Nat.zero_add, Blk.cell hh]
    rw [← htake, List.getElem?_take] at hu
    split at hu
    · simpa using hu
    · cases hu
end Go.Proofs.YtcafklmbehoggaaGreatDoor.Recs
namespace Go.Proofs.YtcafklmbehoggaaGreatDoor.Recs
open Go.RowKit Go.Proofs.YtcafklmbehoggaaGreatDoor.Mem Go.Proofs.YtcafklmbehoggaaGreatDoor.Own Go.Proofs.YtcafklmbehoggaaGreatDoor.Canon Go.Proofs.YtcafklmbehoggaaGreatDoor.NumPut
open Go.Proofs.YtcafklmbehoggaaGreatDoor.Block (part_own)
def bytesB (wh : Bool) (l : List Rec) : List Nat := l.flatMap (oneB wh)
theorem bytesB_take {wh : Bool} {l : List Rec} {k : Nat} {r : Rec} (hr : l[k]? = some r) : bytesB wh (l.take (k + 1)) = bytesB wh (l.take k) ++ oneB wh r := by
  unfold bytesB
  rw [List.take_add_one, hr, List.flatMap_append]
  simp
theorem bytesB_u8 (wh : Bool) {l : List Rec} (h : ∀ r ∈ l, RecOk r) : ∀ x ∈ bytesB wh l, x ≤ 255 := fun x hx => by
  obtain ⟨r, hr, hx⟩ := List.mem_flatMap.1 hx
  exact oneB_u8 wh (h r hr) x hx
theorem bytesB_mono (wh : Bool) (l : List Rec) (k : Nat) : (bytesB wh (l.take k)).length ≤ (bytesB wh l).length := by
  conv => rhs; rw [← List.take_append_drop k l]
  unfold bytesB
  rw [List.flatMap_append, List.length_append]
  omega
def BytesPost (wh : Bool) (l : List Rec) (w : World) (e : Ending) (w' : World) : Prop :=
  ∃ v, e = .returned v ∧ w'.ownsRow w.heap.size 5 1 v (bytesB wh l).length (numL .u8 (bytesB wh l)) ∧ Below w.heap.size w w'
set_option maxHeartbeats 2000000 in
set_option maxRecDepth 100000 in
theorem bytes_any (w : World) (wh : Bool) (A : Option Addr) (n c : Nat) (l : List Rec) (hn : l.length = n) (hN : n ≤ 9223372036854775807) (hok : ∀ r ∈ l, RecOk r) (hl : ∀ r ∈ l, longB r = false) (hb : (bytesB wh l).length ≤ 1000000000) (ha : Row w w.heap.size A n 4 (recF l)) :
    Calls Tryz.prog 36 #[.bool wh, .slice A n c] w (BytesPost wh l w) := by
  obtain ⟨j0, hj0, hy0, hy1, hy2⟩ := info_parts info_u8
  have HN := Lib.hid hn
  have HM := Lib.hid (fun k => Nat.le_trans (bytesB_mono wh l k) hb)
  have HD := Lib.hid (fun wx r (h : r ∈ l) => one_any wx wh r (hok r h) (hl r h))
  unfold OnePost at HD
  unfold BytesPost
  clear hn hok hl hb
  go_enter Tryz.func36, Tryz.ntmps36
  go_wp2_with fail
  go_loopw [5, 10] (fun u i wr => ∃ (k q : Nat), k ≤ n ∧ q ≤ 1000000000 ∧ i = .int .i64 k ∧ Hid ((bytesB wh (l.take k)).length = q) ∧ Hid (wr.ownsRow w.heap.size 5 1 u q (numL .u8 (bytesB wh (l.take k)))) ∧ Hid (Below w.heap.size w wr)) (fun _ i _ => n - (intOf i).toNat)
  case atStart => exact ⟨0, 0, by omega, by omega, rfl, rfl, World.ownsRow_nil _ _ _ _, Below.refl _ _⟩
  case round =>
    obtain ⟨k, q, hk, hq, rfl, HQ, HO, HB⟩ := hrel
    have hz := HB.out.size
    by_cases hlt : k < n
    · obtain ⟨b, off, r, rfl, hbb, hg, c0, c1, c2, c3⟩ := Row.rec (ha.below HB.out) HN.out hlt
      have D := Lib.hid (fun wx => HD.out wx r (List.mem_of_getElem? hg))
      have HT := Lib.hid (bytesB_take (wh := wh) hg)
      have hq2 : q + (oneB wh r).length ≤ 1000000000 := by
        have h := HM.out (k + 1)
        rw [HT.out, List.length_append, HQ.out] at h
        exact h
      have hol : (oneB wh r).length ≤ 1000000000 := by omega
      unfold Rec.val at D
      have x0 : (0 : Int) ≤ (k : Int) := by omega
      have x1 : (k : Int) < (n : Int) := by omega
      generalize oneB wh r = O at *
      obtain ⟨m, hm⟩ : ∃ m, m = O.length := ⟨_, rfl⟩
      rw [← hm] at D hq2 hol
      have HML := Lib.hid hm
      clear hg hm
      go_wp2_with fail
      refine (D.out _).mono ?_
      rintro e w1 ⟨v1, rfl, ho1, hb1⟩
      obtain ⟨A1, d1, rfl⟩ := own_shape ho1
      have HS1 : Hid (Src w1 A1 m d1 1 (numL .u8 O)) := src_row7 ho1
      have HB1 : Hid (Below w.heap.size w w1) := bel_step0 hb1 (bel_alloc0 HB.out)
      have HO1 : Hid (w1.ownsRow w.heap.size 5 1 u5 q (numL .u8 (bytesB wh (l.take k)))) := own_kept (HO.out.alloc (.cells #[.int .u64 r.time, .int .u8 r.level, .string r.source, .string r.text] 66)) (fun y hy => hb1.block y (by have := (World.ownsRow.lt HO.out y hy).2; simp; omega))
      have hz1 := HB1.out.size
      clear ho1 hb1 D c0 c1 c2 c3 HO HB
      go_wp2_with (at_builtin; refine wpList_app rfl (.tmp 14) (.tmp 17) 29 rfl w.heap.size 5 j0 _ 1 1 Tryz.underlying29 hj0 hy0 hy1 hy2 rfl (by decide) _ _ _ (by rfl) HO1.out _ _ _ _ (by rfl) HS1.out (numL_one _ _) (by unfold maxLen; omega) (by omega) hz1 ?_; intro v4 w4 hown4 hg4 hat4)
      have HB4 : Hid (Below w.heap.size w w4) := HB1.out.grown hg4 hz1 (fun y hy => (World.ownsRow.lt HO1.out y hy).1)
      have HO4 : Hid (w4.ownsRow w.heap.size 5 1 v4 (q + m) (numL .u8 (bytesB wh (l.take (k + 1))))) := by
        rw [HT.out, show numL .u8 (bytesB wh (l.take k) ++ O) = numL .u8 (bytesB wh (l.take k)) ++ numL .u8 O by simp [numL]]
        exact hown4
      clear hown4 hg4 hat4
      go_roundw
      case measure => go_light; simp [intOf]; omega
      case rel => go_light; exact ⟨k + 1, q + m, by omega, hq2, by first | rfl | go_num, by show _ = _; rw [HT.out, List.length_append, HQ.out, HML.out], HO4.out, HB4.out⟩
    · obtain rfl : k = n := by omega
      have h1 : l.take k = l := List.take_of_length_le (by rw [HN.out]; exact Nat.le_refl _)
      rw [h1] at HQ HO
      clear h1
      go_wp2_with fail
      go_ret
      exact ⟨_, rfl, by rw [HQ.out]; exact HO.out, HB.out⟩
end Go.Proofs.YtcafklmbehoggaaGreatDoor.Recs
namespace Go.Proofs.YtcafklmbehoggaaGreatDoor.Recs
open Go.RowKit Go.Proofs.YtcafklmbehoggaaGreatDoor.Mem Go.Proofs.YtcafklmbehoggaaGreatDoor.Own Go.Proofs.YtcafklmbehoggaaGreatDoor.Canon Go.Proofs.YtcafklmbehoggaaGreatDoor.NumPut
def goG (S : Nat) : Nat → Nat → List Nat → List Nat
  | _, c, [] => [c]
  | h, c, x :: t => if S < h + x then c :: goG S x 1 t else goG S (h + x) (c + 1) t
def groupsP (S : Nat) : List Nat → List Nat
  | [] => []
  | x :: t => goG S x 1 t
def lensB (wh : Bool) (l : List Rec) : List Nat := l.map fun r => (oneB wh r).length
theorem lensB_drop {wh : Bool} {l : List Rec} {k : Nat} {r : Rec} (hr : l[k]? = some r) : (lensB wh l).drop k = (oneB wh r).length :: (lensB wh l).drop (k + 1) := by
  obtain ⟨hk, e⟩ := List.getElem?_eq_some_iff.1 hr
  have hk2 : k < (lensB wh l).length := by unfold lensB; rw [List.length_map]; exact hk
  rw [List.drop_eq_getElem_cons hk2]
  congr 1
  simp [lensB, e]
theorem lensB_end {wh : Bool} {l : List Rec} {n : Nat} (hn : l.length = n) : (lensB wh l).drop n = [] := List.drop_of_length_le (by unfold lensB; rw [List.length_map]; omega)
theorem glast_cell {w : World} {base g cg q z : Nat} {done : List Nat} (h : w.ownsRow base 3 1 (.slice (some ⟨g, 0, none⟩) (q + 1) cg) (q + 1) (numL .i64 (done ++ [z]))) (hq : done.length = q) : w.cell? ⟨g, q, none⟩ = some (.int .i64 (z : Nat)) := by
  rw [(Lz.own_cells h (show q < q + 1 by omega)).1]
  simp only [numL, List.getElem?_map]
  rw [List.getElem?_append_right (by omega), hq]
  simp
theorem glast_put {w : World} {base g cg q z : Nat} {done : List Nat} (h : w.ownsRow base 3 1 (.slice (some ⟨g, 0, none⟩) (q + 1) cg) (q + 1) (numL .i64 (done ++ [z]))) (hq : done.length = q) : (w.setCell ⟨g, q, none⟩ (.int .i64 (z + 1 : Nat))).ownsRow base 3 1 (.slice (some ⟨g, 0, none⟩) (q + 1) cg) (q + 1) (numL .i64 (done ++ [z + 1])) := by
  have h1 := Lz.own_put h (.int .i64 (z + 1 : Nat)) (show q < q + 1 by omega)
  have e : (numL .i64 (done ++ [z])).set q (.int .i64 (z + 1 : Nat)) = numL .i64 (done ++ [z + 1]) := by
    have hl : q = (numL .i64 done).length := by unfold numL; rw [List.length_map, hq]
    have e1 : numL .i64 (done ++ [z]) = numL .i64 done ++ [.int .i64 (z : Nat)] := by simp [numL]
    rw [e1, hl, List.set_append_right _ _ (Nat.le_refl _), Nat.sub_self]
    simp [numL]
  rw [e] at h1
  exact h1
theorem info_gint : (Tryz.prog.info? 3).map (fun i => (i.zero, i.size, i.bytes)) = some (some (.int .i64 0), 1, 8) := by kernel_rfl
def GroupsPost (S : Nat) (wh : Bool) (l : List Rec) (w : World) (e : Ending) (w' : World) : Prop :=
  ∃ v, e = .returned v ∧ w'.ownsRow w.heap.size 3 1 v (groupsP S (lensB wh l)).length (numL .i64 (groupsP S (lensB wh l))) ∧ Below w.heap.size w w'
theorem numL_snoc (k : IntKind) (l : List Nat) (x : Nat) : numL k (l ++ [x]) = numL k l ++ [.int k (x : Nat)] := by simp [numL]
set_option maxHeartbeats 2000000 in
set_option maxRecDepth 100000 in
theorem groups_any (w : World) (S : Nat) (wh : Bool) (A : Option Addr) (n c : Nat) (l : List Rec) (hS : 1 ≤ S) (hS2 : S ≤ 1000000) (hn : l.length = n) (hN : n ≤ 1000000) (hok : ∀ r ∈ l, RecOk r) (hl : ∀ r ∈ l, longB r = false) (ha : Row w w.heap.size A n 4 (recF l)) :
    Calls Tryz.prog 34 #[.int .i64 S, .bool wh, .slice A n c] w (GroupsPost S wh l w) := by
  obtain ⟨j0, hj0, hy0, hy1, hy2⟩ := info_parts info_gint
  have HN := Lib.hid hn
  have HX := Lib.hid (fun r (h : r ∈ l) => (oneB_len wh (hok r h) (hl r h)).1)
  have HX2 := Lib.hid (fun r (h : r ∈ l) => longB_false (hl r h))
  have HD := Lib.hid (fun wx r (h : r ∈ l) => one_any wx wh r (hok r h) (hl r h))
  have HE := Lib.hid (lensB_end (wh := wh) hn)
  unfold OnePost at HD
  unfold GroupsPost
  obtain ⟨R, hR⟩ : ∃ R, R = groupsP S (lensB wh l) := ⟨_, rfl⟩
  have HR := Lib.hid hR
  rw [← hR]
  have hmx : max (1 : Int) (S : Int) = (S : Int) := by omega
  clear hn hok hl hR
  go_enter Tryz.func34, Tryz.ntmps34
  go_wp2_with fail
  go_loopw [7, 8, 14] (fun u hv i wr => ∃ (k q h : Nat) (out : List Nat), k ≤ n ∧ q ≤ k ∧ h ≤ 1010000 ∧ i = .int .i64 k ∧ hv = .int .i64 h ∧ Hid (out.length = q) ∧ Hid ((k = 0 ∧ out = [] ∧ h = 0) ∨ (0 < k ∧ ∃ done z, out = done ++ [z] ∧ z ≤ k ∧ done ++ goG S h z ((lensB wh l).drop k) = R)) ∧ Hid (wr.ownsRow w.heap.size 3 1 u q (numL .i64 out)) ∧ Hid (Below w.heap.size w wr)) (fun _ _ i _ => n - (intOf i).toNat)
  case atStart => exact ⟨0, 0, 0, [], by omega, by omega, by omega, rfl, rfl, rfl, .inl ⟨rfl, rfl, rfl⟩, World.ownsRow_nil _ _ _ _, Below.refl _ _⟩
  case round =>
    obtain ⟨k, q, h, out, hk, hqk, hh, rfl, rfl, HQ, HC, HO, HB⟩ := hrel
    obtain ⟨uA, uc, rfl⟩ := own_shape HO.out
    have hz := HB.out.size
    by_cases hlt : k < n
    · obtain ⟨b, off, r, rfl, hbb, hg, c0, c1, c2, c3⟩ := Row.rec (ha.below HB.out) HN.out hlt
      have D := Lib.hid (fun wx => HD.out wx r (List.mem_of_getElem? hg))
      unfold Rec.val at D
      have hx := HX.out r (List.mem_of_getElem? hg)
      have hx2 := HX2.out r (List.mem_of_getElem? hg)
      have x0 : (0 : Int) ≤ (k : Int) := by omega
      have x1 : (k : Int) < (n : Int) := by omega
      have hx3 : (oneB wh r).length ≤ 8017 := by omega
      have HGD := Lib.hid (lensB_drop (wh := wh) hg)
      generalize oneB wh r = O at *
      obtain ⟨x, hx0⟩ : ∃ x, x = O.length := ⟨_, rfl⟩
      rw [← hx0] at D hx3 HGD
      have s1 : IntKind.i64.wrap ((h : Int) + (x : Int)) = ((h + x : Nat) : Int) := by rw [IntWalk.i64_in _ (by omega)]; omega
      have s2 : IntKind.i64.wrap ((0 : Int) + (x : Int)) = (x : Int) := by rw [IntWalk.i64_in _ (by omega)]; omega
      clear hg hx hx2 hx0
      by_cases hnew : k = 0 ∨ S < h + x
      · -- a new group
        have HNX : Hid (∃ done2, out = done2 ∧ done2 ++ goG S x 1 ((lensB wh l).drop (k + 1)) = R) := by
          rcases HC.out with ⟨h1, h2, h3⟩ | ⟨h1, done, z, h2, h3, h4⟩
          · refine ⟨[], h2, ?_⟩
            have e := HR.out
            have e2 := HGD.out
            rw [h1, List.drop_zero] at e2
            rw [e2, groupsP] at e
            rw [h1]
            exact e.symm
          · refine ⟨out, rfl, ?_⟩
            have hf : S < h + x := by rcases hnew with hnew | hnew; omega; exact hnew
            rw [HGD.out, goG, if_pos hf] at h4
            rw [h2, List.append_assoc]
            exact h4
        have HNX2 : Hid (out ++ goG S x 1 ((lensB wh l).drop (k + 1)) = R) := by
          obtain ⟨d2, h1, h2⟩ := HNX.out
          rw [h1]; exact h2
        obtain ⟨hx', hhx⟩ : ∃ hx', hx' = h + x := ⟨_, rfl⟩
        rw [← hhx] at s1 hnew
        by_cases hq0 : q = 0
        · have gq : ((q : Int) == 0) = true := by simp [hq0]
          clear hnew hhx HNX HC hq0
          go_wp2_with fail
          refine (D.out _).mono ?_
          rintro e w1 ⟨v1, rfl, ho1, hb1⟩
          obtain ⟨A1, d1, rfl⟩ := own_shape ho1
          have HB1 : Hid (Below w.heap.size w w1) := bel_step0 hb1 (bel_alloc0 HB.out)
          have HO1 : Hid (w1.ownsRow w.heap.size 3 1 (.slice uA q uc) q (numL .i64 out)) := own_kept (HO.out.alloc (.cells #[.int .u64 r.time, .int .u8 r.level, .string r.source, .string r.text] 66)) (fun y hy => hb1.block y (by have := (World.ownsRow.lt HO.out y hy).2; simp; omega))
          have hz1 := HB1.out.size
          obtain ⟨z, hz0⟩ : ∃ z : Nat, z = 0 := ⟨_, rfl⟩
          have HZ := Lib.hid hz0
          have hz1b : z ≤ 0 := by omega
          obtain ⟨done2, hd2⟩ : ∃ done2, done2 = out := ⟨_, rfl⟩
          obtain ⟨q2, hq2⟩ : ∃ q2, q2 = q := ⟨_, rfl⟩
          have HQ4 : Hid (done2.length = q2) := by rw [hd2, hq2]; exact HQ.out
          have HD2 := Lib.hid hd2
          have HQ2 := Lib.hid hq2
          have hq2b : q2 ≤ k := by omega
          clear ho1 hb1 D c0 c1 c2 c3 HO HB hz hz0 hd2 hq2
          go_wp2_with (at_builtin; refine wpList_app rfl (.tmp 33) (.tmp 34) 42 rfl w.heap.size 3 j0 _ 1 8 Tryz.underlying42 hj0 hy0 hy1 hy2 rfl (by decide) _ _ _ (by rfl) (HO1.out.alloc _) _ 1 1 [.int .i64 0] (by rfl) (Src.of_blk (g := w1.heap.size) (Blk.made _ _ _) 1 1 1 rfl) (by intro u hu; simp at hu; rcases hu with rfl; rfl) (by unfold maxLen; omega) (by omega) (by simp; omega) ?_; intro v4 w4 hown4 hg4 hat4; have HB4 : Hid (Below w.heap.size w w4) := (bel_alloc0 HB1.out).grown hg4 (by simp; omega) (fun y hy => (World.ownsRow.lt HO1.out y hy).1); have HO4 : Hid (w4.ownsRow w.heap.size 3 1 v4 (q2 + 1) (numL .i64 (done2 ++ [z]))) := (by rw [HD2.out, HQ2.out, numL_snoc, HZ.out]; exact hown4); have hqe := HQ2.out; subst hqe; clear hown4 hg4 hat4 HO1 HB1 hz1; have HZ4 := HB4.out.size; obtain ⟨g, cg, rfl, hg0, _⟩ := HO4.out.form (by omega); have hcell : w4.cell? ⟨g, q2, none⟩ = some (.int .i64 (z : Nat)) := glast_cell HO4.out HQ4.out; have hfz := (Lz.own_cells HO4.out (show q2 < q2 + 1 by omega)).2.1; have HO5 : Hid ((w4.setCell ⟨g, q2, none⟩ (.int .i64 (z + 1 : Nat))).ownsRow w.heap.size 3 1 (.slice (some ⟨g, 0, none⟩) (q2 + 1) cg) (q2 + 1) (numL .i64 (done2 ++ [z + 1]))) := glast_put HO4.out HQ4.out; have HB5 : Hid (Below w.heap.size w (w4.setCell ⟨g, q2, none⟩ (.int .i64 (z + 1 : Nat)))) := bel_set hg0 HB4.out; have u1 : IntKind.i64.wrap (((q2 + 1 : Nat) : Int) - 1) = (q2 : Int) := (by rw [IntWalk.i64_in _ (by omega)]; omega); have u1' : IntKind.i64.wrap ((q2 : Int) + 1 - 1) = (q2 : Int) := (by rw [IntWalk.i64_in _ (by omega)]; omega); have u2 : IntKind.i64.wrap ((z : Int) + 1) = ((z + 1 : Nat) : Int) := (by rw [IntWalk.i64_in _ (by omega)]; omega); have y0 : (0 : Int) ≤ (q2 : Int) := (by omega); have y1 : (q2 : Int) < ((q2 + 1 : Nat) : Int) := (by omega))
          go_roundw
          case measure => go_light; simp [intOf]; omega
          case rel => go_light; exact ⟨k + 1, q2 + 1, x, done2 ++ [z + 1], by omega, by omega, by omega, by first | rfl | go_num, by first | rfl | go_num, by show _ = _; rw [List.length_append, HQ4.out]; rfl, .inr ⟨by omega, done2, z + 1, rfl, by omega, by have e := HNX2.out; rw [← HD2.out] at e; rw [HZ.out]; exact e⟩, HO5.out, HB5.out⟩
        · have gq : ((q : Int) == 0) = false := by rw [beq_eq_false_iff_ne]; omega
          have hkp : ¬ k = 0 := by omega
          have hf : S < hx' := by rcases hnew with hnew | hnew; exact absurd hnew hkp; exact hnew
          have gs : decide ((S : Int) < (hx' : Int)) = true := by simp; omega
          have gs' : decide (S < hx') = true := by simp; omega
          clear hnew hhx HNX HC hf hkp hq0
          go_wp2_with fail
          refine (D.out _).mono ?_
          rintro e w1 ⟨v1, rfl, ho1, hb1⟩
          obtain ⟨A1, d1, rfl⟩ := own_shape ho1
          have HB1 : Hid (Below w.heap.size w w1) := bel_step0 hb1 (bel_alloc0 HB.out)
          have HO1 : Hid (w1.ownsRow w.heap.size 3 1 (.slice uA q uc) q (numL .i64 out)) := own_kept (HO.out.alloc (.cells #[.int .u64 r.time, .int .u8 r.level, .string r.source, .string r.text] 66)) (fun y hy => hb1.block y (by have := (World.ownsRow.lt HO.out y hy).2; simp; omega))
          have hz1 := HB1.out.size
          obtain ⟨z, hz0⟩ : ∃ z : Nat, z = 0 := ⟨_, rfl⟩
          have HZ := Lib.hid hz0
          have hz1b : z ≤ 0 := by omega
          obtain ⟨done2, hd2⟩ : ∃ done2, done2 = out := ⟨_, rfl⟩
          obtain ⟨q2, hq2⟩ : ∃ q2, q2 = q := ⟨_, rfl⟩
          have HQ4 : Hid (done2.length = q2) := by rw [hd2, hq2]; exact HQ.out
          have HD2 := Lib.hid hd2
          have HQ2 := Lib.hid hq2
          have hq2b : q2 ≤ k := by omega
          clear ho1 hb1 D c0 c1 c2 c3 HO HB hz hz0 hd2 hq2
          go_wp2_with (at_builtin; refine wpList_app rfl (.tmp 33) (.tmp 34) 42 rfl w.heap.size 3 j0 _ 1 8 Tryz.underlying42 hj0 hy0 hy1 hy2 rfl (by decide) _ _ _ (by rfl) (HO1.out.alloc _) _ 1 1 [.int .i64 0] (by rfl) (Src.of_blk (g := w1.heap.size) (Blk.made _ _ _) 1 1 1 rfl) (by intro u hu; simp at hu; rcases hu with rfl; rfl) (by unfold maxLen; omega) (by omega) (by simp; omega) ?_; intro v4 w4 hown4 hg4 hat4; have HB4 : Hid (Below w.heap.size w w4) := (bel_alloc0 HB1.out).grown hg4 (by simp; omega) (fun y hy => (World.ownsRow.lt HO1.out y hy).1); have HO4 : Hid (w4.ownsRow w.heap.size 3 1 v4 (q2 + 1) (numL .i64 (done2 ++ [z]))) := (by rw [HD2.out, HQ2.out, numL_snoc, HZ.out]; exact hown4); have hqe := HQ2.out; subst hqe; clear hown4 hg4 hat4 HO1 HB1 hz1; have HZ4 := HB4.out.size; obtain ⟨g, cg, rfl, hg0, _⟩ := HO4.out.form (by omega); have hcell : w4.cell? ⟨g, q2, none⟩ = some (.int .i64 (z : Nat)) := glast_cell HO4.out HQ4.out; have hfz := (Lz.own_cells HO4.out (show q2 < q2 + 1 by omega)).2.1; have HO5 : Hid ((w4.setCell ⟨g, q2, none⟩ (.int .i64 (z + 1 : Nat))).ownsRow w.heap.size 3 1 (.slice (some ⟨g, 0, none⟩) (q2 + 1) cg) (q2 + 1) (numL .i64 (done2 ++ [z + 1]))) := glast_put HO4.out HQ4.out; have HB5 : Hid (Below w.heap.size w (w4.setCell ⟨g, q2, none⟩ (.int .i64 (z + 1 : Nat)))) := bel_set hg0 HB4.out; have u1 : IntKind.i64.wrap (((q2 + 1 : Nat) : Int) - 1) = (q2 : Int) := (by rw [IntWalk.i64_in _ (by omega)]; omega); have u1' : IntKind.i64.wrap ((q2 : Int) + 1 - 1) = (q2 : Int) := (by rw [IntWalk.i64_in _ (by omega)]; omega); have u2 : IntKind.i64.wrap ((z : Int) + 1) = ((z + 1 : Nat) : Int) := (by rw [IntWalk.i64_in _ (by omega)]; omega); have y0 : (0 : Int) ≤ (q2 : Int) := (by omega); have y1 : (q2 : Int) < ((q2 + 1 : Nat) : Int) := (by omega))
          go_roundw
          case measure => go_light; simp [intOf]; omega
          case rel => go_light; exact ⟨k + 1, q2 + 1, x, done2 ++ [z + 1], by omega, by omega, by omega, by first | rfl | go_num, by first | rfl | go_num, by show _ = _; rw [List.length_append, HQ4.out]; rfl, .inr ⟨by omega, done2, z + 1, rfl, by omega, by have e := HNX2.out; rw [← HD2.out] at e; rw [HZ.out]; exact e⟩, HO5.out, HB5.out⟩
      · -- one more
        have hk0 : ¬ k = 0 := by omega
        have hf : ¬ S < h + x := by omega
        obtain ⟨done2, z, hout, hzk, hgo⟩ : ∃ done z, out = done ++ [z] ∧ z ≤ k ∧ done ++ goG S h z ((lensB wh l).drop k) = R := by
          rcases HC.out with ⟨h1, _, _⟩ | ⟨_, h2⟩
          · exact absurd h1 hk0
          · exact h2
        rw [HGD.out, goG, if_neg hf] at hgo
        have hql := HQ.out
        rw [hout, List.length_append] at hql
        obtain ⟨q2, hq2⟩ : ∃ q2, q2 = done2.length := ⟨_, rfl⟩
        have hqq : q = q2 + 1 := by rw [hq2, ← hql]; rfl
        subst hqq
        have gq : (((q2 + 1 : Nat) : Int) == 0) = false := by rw [beq_eq_false_iff_ne]; omega
        have gq' : ((q2 : Int) + 1 == 0) = false := by rw [beq_eq_false_iff_ne]; omega
        obtain ⟨hx', hhx⟩ : ∃ hx', hx' = h + x := ⟨_, rfl⟩
        rw [← hhx] at s1 hf hgo
        have gs : decide ((S : Int) < (hx' : Int)) = false := by simp; omega
        have gs' : decide (S < hx') = false := by simp; omega
        have hxl : hx' ≤ 1010000 := by omega
        have HGO := Lib.hid hgo
        have HOUT := Lib.hid hout
        have HQ4 : Hid (done2.length = q2) := hq2.symm
        clear hgo hout hql hq2 hf hnew hk0 hhx HC HGD
        go_wp2_with fail
        refine (D.out _).mono ?_
        rintro e w4 ⟨v1, rfl, ho1, hb1⟩
        obtain ⟨A1, d1, rfl⟩ := own_shape ho1
        have HB4 : Hid (Below w.heap.size w w4) := bel_step0 hb1 (bel_alloc0 HB.out)
        have HO4 : Hid (w4.ownsRow w.heap.size 3 1 (.slice uA (q2 + 1) uc) (q2 + 1) (numL .i64 (done2 ++ [z]))) := by
          rw [← HOUT.out]
          exact own_kept (HO.out.alloc (.cells #[.int .u64 r.time, .int .u8 r.level, .string r.source, .string r.text] 66)) (fun y hy => hb1.block y (by have := (World.ownsRow.lt HO.out y hy).2; simp; omega))
        clear ho1 hb1 D c0 c1 c2 c3 HO HB hz HOUT HQ
        have HZ4 := HB4.out.size
        obtain ⟨g, cg, hg9, hg0, _⟩ := HO4.out.form (by omega)
        injection hg9 with hg91 hg92 hg93
        subst hg91 hg93
        have hcell : w4.cell? ⟨g, q2, none⟩ = some (.int .i64 (z : Nat)) := glast_cell HO4.out HQ4.out
        have hfz := (Lz.own_cells HO4.out (show q2 < q2 + 1 by omega)).2.1
        have HO5 : Hid ((w4.setCell ⟨g, q2, none⟩ (.int .i64 (z + 1 : Nat))).ownsRow w.heap.size 3 1 (.slice (some ⟨g, 0, none⟩) (q2 + 1) uc) (q2 + 1) (numL .i64 (done2 ++ [z + 1]))) := glast_put HO4.out HQ4.out
        have HB5 : Hid (Below w.heap.size w (w4.setCell ⟨g, q2, none⟩ (.int .i64 (z + 1 : Nat)))) := bel_set hg0 HB4.out
        have u1 : IntKind.i64.wrap (((q2 + 1 : Nat) : Int) - 1) = (q2 : Int) := (by rw [IntWalk.i64_in _ (by omega)]; omega)
        have u1' : IntKind.i64.wrap ((q2 : Int) + 1 - 1) = (q2 : Int) := (by rw [IntWalk.i64_in _ (by omega)]; omega)
        have u2 : IntKind.i64.wrap ((z : Int) + 1) = ((z + 1 : Nat) : Int) := (by rw [IntWalk.i64_in _ (by omega)]; omega)
        have y0 : (0 : Int) ≤ (q2 : Int) := (by omega)
        have y1 : (q2 : Int) < ((q2 + 1 : Nat) : Int) := (by omega)
        go_wp2_with fail
        go_roundw
        case measure => go_light; simp [intOf]; omega
        case rel => go_light; exact ⟨k + 1, q2 + 1, hx', done2 ++ [z + 1], by omega, by omega, hxl, by first | rfl | go_num, by first | rfl | go_num, by show _ = _; rw [List.length_append, HQ4.out]; rfl, .inr ⟨by omega, done2, z + 1, rfl, by omega, HGO.out⟩, HO5.out, HB5.out⟩
    · obtain rfl : k = n := by omega
      have HF : Hid (out = R) := by
        rcases HC.out with ⟨h1, h2, _⟩ | ⟨_, done, z, h2, _, h4⟩
        · have e := HR.out
          have e2 := HE.out
          rw [h1, List.drop_zero] at e2
          rw [e2, groupsP] at e
          rw [h2]; exact e.symm
        · rw [HE.out, goG] at h4
          rw [h2]; exact h4
      clear HC
      go_wp2_with fail
      go_ret
      exact ⟨_, rfl, by rw [← HF.out, HQ.out]; exact HO.out, HB.out⟩
end Go.Proofs.YtcafklmbehoggaaGreatDoor.Recs
namespace Go.Proofs.YtcafklmbehoggaaGreatDoor.Recs
open Go.Proofs.YtcafklmbehoggaaGreatDoor.NumPut
def zigN (d : Nat) : Nat := if d < 9223372036854775808 then 2 * d else 36893488147419103231 - 2 * d
def subN (a b : Nat) : Nat := (a + 18446744073709551616 - b) % 18446744073709551616
theorem zigN_lt {d : Nat} (h : d < 18446744073709551616) : zigN d < 18446744073709551616 := by unfold zigN; split <;> omega
theorem subN_lt (a b : Nat) : subN a b < 18446744073709551616 := Nat.mod_lt _ (by omega)
def timesG (g : Nat → Nat → List Nat) : Nat → List Nat → List Nat
  | _, [] => []
  | was, t :: l => g was t ++ timesG g t l
theorem timesG_snoc (g : Nat → Nat → List Nat) : ∀ (l : List Nat) (was t : Nat), timesG g was (l ++ [t]) = timesG g was l ++ g (l.getLast?.getD was) t
  | [], was, t => by simp [timesG]
  | x :: l, was, t => by
    rw [List.cons_append, timesG, timesG_snoc g l x t, timesG, List.append_assoc]
    have e : (x :: l).getLast?.getD was = l.getLast?.getD x := by
      cases l with
      | nil => rfl
      | cons z s => simp [List.getLast?_cons]
    rw [e]
theorem timesG_len {g : Nat → Nat → List Nat} (h : ∀ a b, (g a b).length ≤ 10) : ∀ (l : List Nat) (was : Nat), (timesG g was l).length ≤ 10 * l.length
  | [], _ => by simp [timesG]
  | t :: l, was => by
    have := timesG_len h l t
    have := h was t
    rw [timesG, List.length_append, List.length_cons]
    omega
theorem timesG_u8 {g : Nat → Nat → List Nat} (h : ∀ a b, ∀ y ∈ g a b, y ≤ 255) : ∀ (l : List Nat) (was : Nat), ∀ y ∈ timesG g was l, y ≤ 255
  | [], _, y, hy => by simp [timesG] at hy
  | t :: l, was, y, hy => by
    rw [timesG] at hy
    rcases List.mem_append.1 hy with hy | hy
    · exact h was t y hy
    · exact timesG_u8 h l t y hy
def stepT (was t : Nat) : List Nat := numB (zigN (subN t was))
theorem stepT_len (a b : Nat) : (stepT a b).length ≤ 10 := numB_len64 (zigN_lt (subN_lt b a))
theorem stepT_u8 (a b : Nat) : ∀ y ∈ stepT a b, y ≤ 255 := fun y hy => numB_u8 _ y hy
def lead (x : Nat) : List Nat → Nat
  | [] => 0
  | y :: t => if y = x then lead x t + 1 else 0
theorem lead_le (x : Nat) : ∀ l, lead x l ≤ l.length
  | [] => by simp [lead]
  | y :: t => by
    have := lead_le x t
    rw [lead]
    split <;> simp <;> omega
theorem lead_end (x : Nat) : ∀ (l : List Nat) (j : Nat), (∀ i, i < j → l[i]? = some x) → l[j]? ≠ some x → lead x l = j
  | [], 0, _, _ => rfl
  | [], j + 1, h, _ => by have := h 0 (by omega); simp at this
  | y :: t, 0, _, h => by
    rw [lead, if_neg]
    intro e
    exact h (by rw [e]; rfl)
  | y :: t, j + 1, h, h2 => by
    have := h 0 (by omega)
    rw [lead, if_pos (by simpa using this), lead_end x t j (fun i hi => by have := h (i + 1) (by omega); simpa using this) (by simpa using h2)]
def lvB : List Nat → List Nat
  | [] => []
  | x :: t => x :: (numB (lead x t + 1) ++ lvB (t.drop (lead x t)))
termination_by l => l.length
decreasing_by simp only [List.length_drop, List.length_cons]; omega
theorem lvB_len : ∀ (n : Nat) (l : List Nat), l.length ≤ n → (∀ x ∈ l, x ≤ 255) → l.length < 18446744073709551616 → (lvB l).length ≤ 11 * l.length
  | _, [], _, _, _ => by rw [lvB]; simp
  | n + 1, x :: t, h, h8, h64 => by
    have hl := lead_le x t
    simp only [List.length_cons] at h h64
    have := numB_len64 (x := lead x t + 1) (by omega)
    have ih := lvB_len n (t.drop (lead x t)) (by rw [List.length_drop]; omega) (fun y hy => h8 y (List.mem_cons_of_mem _ (List.mem_of_mem_drop hy))) (by rw [List.length_drop]; omega)
    rw [List.length_drop] at ih
    rw [lvB]
    simp only [List.length_cons, List.length_append]
    omega
theorem lvB_u8 : ∀ (n : Nat) (l : List Nat), l.length ≤ n → (∀ x ∈ l, x ≤ 255) → ∀ y ∈ lvB l, y ≤ 255
  | _, [], _, _, y, hy => by rw [lvB] at hy; cases hy
  | n + 1, x :: t, h, h8, y, hy => by
    rw [lvB] at hy
    simp only [List.length_cons] at h
    rcases List.mem_cons.1 hy with rfl | hy
    · exact h8 _ (by simp)
    · rcases List.mem_append.1 hy with hy | hy
      · exact numB_u8 _ y hy
      · exact lvB_u8 n (t.drop (lead x t)) (by rw [List.length_drop]; omega) (fun y hy => h8 y (List.mem_cons_of_mem _ (List.mem_of_mem_drop hy))) y hy
def timesL (l : List Rec) : List Nat := l.map fun r => r.time.toNat
def levelsL (l : List Rec) : List Nat := l.map fun r => r.level.toNat
def colsB (l : List Rec) : List Nat := timesG stepT 0 (timesL l) ++ lvB (levelsL l)
theorem levelsL_u8 {l : List Rec} (h : ∀ r ∈ l, RecOk r) : ∀ x ∈ levelsL l, x ≤ 255 := fun x hx => by
  obtain ⟨r, hr, rfl⟩ := List.mem_map.1 hx
  have := h r hr
  obtain ⟨_, _, h1, h2⟩ := this
  omega
theorem colsB_u8 {l : List Rec} (h : ∀ r ∈ l, RecOk r) : ∀ x ∈ colsB l, x ≤ 255 := fun x hx => by
  rcases List.mem_append.1 hx with hx | hx
  · exact timesG_u8 stepT_u8 _ _ x hx
  · exact lvB_u8 _ _ (Nat.le_refl _) (levelsL_u8 h) x hx
theorem colsB_len {l : List Rec} (h : ∀ r ∈ l, RecOk r) (hn : l.length ≤ 1000000) : (colsB l).length ≤ 21 * l.length := by
  have h1 := timesG_len stepT_len (timesL l) 0
  have h2 := lvB_len _ (levelsL l) (Nat.le_refl _) (levelsL_u8 h) (by unfold levelsL; rw [List.length_map]; omega)
  unfold timesL at h1
  unfold levelsL at h2
  rw [List.length_map] at h1 h2
  unfold colsB
  rw [List.length_append]
  unfold timesL levelsL
  omega
end Go.Proofs.YtcafklmbehoggaaGreatDoor.Recs
namespace Go.Proofs.YtcafklmbehoggaaGreatDoor.One
open Go.RowKit Go.Proofs.YtcafklmbehoggaaGreatDoor.Mem Go.Proofs.YtcafklmbehoggaaGreatDoor.Own Go.Proofs.YtcafklmbehoggaaGreatDoor.Canon Go.Proofs.YtcafklmbehoggaaGreatDoor.NumPut Go.Proofs.YtcafklmbehoggaaGreatDoor.Crc
open Go.Proofs.YtcafklmbehoggaaGreatDoor.Recs Go.Proofs.YtcafklmbehoggaaGreatDoor.Opts
open Go.Proofs.YtcafklmbehoggaaGreatDoor.Block (frameB WPost part_own write_any)
theorem goG_sum (S : Nat) : ∀ (t : List Nat) (h c : Nat), (goG S h c t).sum = c + t.length
  | [], _, c => by simp [goG]
  | x :: t, h, c => by
    rw [goG]
    split
    · rw [List.sum_cons, goG_sum S t]; simp; omega
    · rw [goG_sum S t]; simp; omega
theorem goG_pos (S : Nat) : ∀ (t : List Nat) (h c : Nat), 1 ≤ c → ∀ x ∈ goG S h c t, 1 ≤ x
  | [], _, c, hc, x, hx => by rw [goG, List.mem_singleton] at hx; omega
  | y :: t, h, c, hc, x, hx => by
    rw [goG] at hx
    split at hx
    · rcases List.mem_cons.1 hx with rfl | hx
      · exact hc
      · exact goG_pos S t _ 1 (by omega) x hx
    · exact goG_pos S t _ (c + 1) (by omega) x hx
theorem groups_sum (S : Nat) (l : List Nat) : (groupsP S l).sum = l.length := by
  cases l with
  | nil => rfl
  | cons x t => rw [groupsP, goG_sum]; simp; omega
theorem groups_pos (S : Nat) (l : List Nat) : ∀ x ∈ groupsP S l, 1 ≤ x := by
  cases l with
  | nil => intro x hx; cases hx
  | cons y t => exact goG_pos S t y 1 (by omega)
theorem pos_length : ∀ {l : List Nat}, (∀ x ∈ l, 1 ≤ x) → l.length ≤ l.sum
  | [], _ => by simp
  | x :: l, h => by
    have h1 := h x (by simp)
    have h2 := pos_length (l := l) (fun y hy => h y (by simp [hy]))
    rw [List.length_cons, List.sum_cons]
    omega
theorem lensB_length (wh : Bool) (l : List Rec) : (lensB wh l).length = l.length := by unfold lensB; rw [List.length_map]
end Go.Proofs.YtcafklmbehoggaaGreatDoor.One
namespace Go.Proofs.YtcafklmbehoggaaGreatDoor.One
open Go.RowKit Go.Proofs.YtcafklmbehoggaaGreatDoor.Mem Go.Proofs.YtcafklmbehoggaaGreatDoor.Own Go.Proofs.YtcafklmbehoggaaGreatDoor.Canon Go.Proofs.YtcafklmbehoggaaGreatDoor.NumPut Go.Proofs.YtcafklmbehoggaaGreatDoor.Crc
open Go.Proofs.YtcafklmbehoggaaGreatDoor.Recs Go.Proofs.YtcafklmbehoggaaGreatDoor.Opts
open Go.Proofs.YtcafklmbehoggaaGreatDoor.Block (frameB WPost part_own part_blk write_any)
theorem chkE_ok {l : List Rec} (h : chkE l = 0) : ∀ r ∈ l, longB r = false := by
  unfold chkE at h
  split at h
  · cases h
  · split at h
    · cases h
    · rename_i h1
      intro r hr
      cases hb : longB r
      · rfl
      · exact absurd (List.any_eq_true.2 ⟨r, hr, hb⟩) h1
theorem recF_take {l : List Rec} {m i : Nat} (h : i < m) (j : Nat) : recF (l.take m) i j = recF l i j := by
  have e : (l.take m).getD i recd = l.getD i recd := by
    rw [List.getD_eq_getElem?_getD, List.getD_eq_getElem?_getD, List.getElem?_take, if_pos h]
  unfold recF
  rw [e]
theorem recF_drop' (l : List Rec) (k i j : Nat) : recF l (k + i) j = recF (l.drop k) i j := by
  have e : (l.drop k).getD i recd = l.getD (k + i) recd := by
    rw [List.getD_eq_getElem?_getD, List.getD_eq_getElem?_getD, List.getElem?_drop]
  unfold recF
  rw [e]
theorem bytesB_le (wh : Bool) {l l' : List Rec} (h : l.Sublist l') : (bytesB wh l).length ≤ (bytesB wh l').length := by
  induction h with
  | slnil => exact Nat.le_refl _
  | cons a _ ih => unfold bytesB at *; rw [List.flatMap_cons, List.length_append]; omega
  | cons_cons a _ ih => unfold bytesB at *; rw [List.flatMap_cons, List.flatMap_cons, List.length_append, List.length_append]; omega
theorem frame_max {bs : List Nat} (plain : Bool) (h : bs.length ≤ 16000) : (frameB bs plain).length ≤ bs.length + 25 := by
  have hb : (Block.fBody bs plain).length ≤ bs.length := by
    unfold Block.fBody
    split
    · rename_i hc
      rw [Bool.and_eq_true] at hc
      have h2 := hc.2
      unfold Block.sqz at h2
      simp at h2
      omega
    · omega
  have h1 := numB_len64 (x := bs.length) (by omega)
  have h2 := numB_len64 (x := (Block.fBody bs plain).length) (by omega)
  unfold frameB Block.fAll Block.fHead
  simp only [List.length_append, List.length_singleton]
  have : (tailN (sumN (([Block.fWay bs plain] ++ numB bs.length ++ numB (Block.fBody bs plain).length) ++ Block.fBody bs plain))).length = 4 := rfl
  omega
theorem bytesB_split (wh : Bool) (l : List Rec) (m : Nat) : (bytesB wh (l.take m)).length + (bytesB wh (l.drop m)).length = (bytesB wh l).length := by
  conv => rhs; rw [← List.take_append_drop m l]
  unfold bytesB
  rw [List.flatMap_append, List.length_append]
end Go.Proofs.YtcafklmbehoggaaGreatDoor.One
namespace Go.Proofs.YtcafklmbehoggaaGreatDoor.One
open Go.RowKit Go.Proofs.YtcafklmbehoggaaGreatDoor.Mem Go.Proofs.YtcafklmbehoggaaGreatDoor.Own Go.Proofs.YtcafklmbehoggaaGreatDoor.Canon Go.Proofs.YtcafklmbehoggaaGreatDoor.NumPut Go.Proofs.YtcafklmbehoggaaGreatDoor.Crc
open Go.Proofs.YtcafklmbehoggaaGreatDoor.Recs Go.Proofs.YtcafklmbehoggaaGreatDoor.Opts
open Go.Proofs.YtcafklmbehoggaaGreatDoor.Block (frameB WPost part_own part_blk own_one)
def FrsAt (w : World) (base : Nat) (ps : List Part) : Prop := ∀ p ∈ ps, w.ownsRow base 5 1 p.v p.ls.length (numL .u8 p.ls)
theorem FrsAt.step {w w' : World} {base : Nat} {ps : List Part} (h : FrsAt w base ps) (hb : Below w.heap.size w w') : FrsAt w' base ps := fun p hp => own_kept (h p hp) (fun y hy => hb.block y (World.ownsRow.lt (h p hp) y hy).2)
theorem own_grown {w w' : World} {base base' s s' n n' : Nat} {e e' : TypeId} {v v' : Value} {xs xs' : List Value} (h : w.ownsRow base e s v n xs) (ho : w.ownsRow base' e' s' v' n' xs') (hne : e ≠ e') (hg : w.grownBy w' v'.ownBlock) : w'.ownsRow base e s v n xs :=
  own_kept h (fun y hy => hg.block y (World.ownsRow.lt h y hy).2 (fun e => by
    rcases own_apart h ho hne with h0 | h0
    · rw [h0] at hy; cases hy
    · exact h0 (hy.trans e)))
theorem FrsAt.grown {w w' : World} {base base' n : Nat} {v : Value} {xs : List Value} {ps : List Part} (h : FrsAt w base ps) (ho : w.ownsRow base' 29 1 v n xs) (hg : w.grownBy w' v.ownBlock) : FrsAt w' base ps := fun p hp =>
  own_grown (h p hp) ho (by decide) hg
theorem FrsAt.snoc {w : World} {base : Nat} {ps : List Part} {p : Part} (h : FrsAt w base ps) (hp : w.ownsRow base 5 1 p.v p.ls.length (numL .u8 p.ls)) : FrsAt w base (ps ++ [p]) := fun q hq => by
  rcases List.mem_append.1 hq with hq | hq
  · exact h q hq
  · rw [List.mem_singleton.1 hq]; exact hp
theorem info_fr : (Tryz.prog.info? 29).map (fun i => (i.zero, i.size, i.bytes)) = some (some (.slice none 0 0), 1, 24) := by kernel_rfl
end Go.Proofs.YtcafklmbehoggaaGreatDoor.One
namespace Go.Proofs.YtcafklmbehoggaaGreatDoor.One
open Go.RowKit Go.Proofs.YtcafklmbehoggaaGreatDoor.Mem Go.Proofs.YtcafklmbehoggaaGreatDoor.Own Go.Proofs.YtcafklmbehoggaaGreatDoor.Canon Go.Proofs.YtcafklmbehoggaaGreatDoor.NumPut Go.Proofs.YtcafklmbehoggaaGreatDoor.Crc
open Go.Proofs.YtcafklmbehoggaaGreatDoor.Recs Go.Proofs.YtcafklmbehoggaaGreatDoor.Opts
open Go.Proofs.YtcafklmbehoggaaGreatDoor.Block (frameB part_own)
theorem flat_le {fs : List (List Nat)} {x : List Nat} (h : x ∈ fs) : x.length ≤ fs.flatten.length := by
  induction fs with
  | nil => cases h
  | cons y t ih =>
    rw [List.flatten_cons, List.length_append]
    rcases List.mem_cons.1 h with rfl | h
    · omega
    · have := ih h; omega
end Go.Proofs.YtcafklmbehoggaaGreatDoor.One
namespace Go.Proofs.YtcafklmbehoggaaGreatDoor.One
open Go.RowKit Go.Proofs.YtcafklmbehoggaaGreatDoor.Mem Go.Proofs.YtcafklmbehoggaaGreatDoor.Own Go.Proofs.YtcafklmbehoggaaGreatDoor.Canon Go.Proofs.YtcafklmbehoggaaGreatDoor.NumPut Go.Proofs.YtcafklmbehoggaaGreatDoor.Crc
open Go.Proofs.YtcafklmbehoggaaGreatDoor.Recs Go.Proofs.YtcafklmbehoggaaGreatDoor.Opts
open Go.Proofs.YtcafklmbehoggaaGreatDoor.Block (frameB part_own)
end Go.Proofs.YtcafklmbehoggaaGreatDoor.One
namespace Go.Proofs.YtcafklmbehoggaaGreatDoor.Opts
open Go.RowKit Go.Proofs.YtcafklmbehoggaaGreatDoor.Mem
def optE2 (o : Opt) : Int := if (16 ≤ o.block ∧ o.block ≤ 32768) ∧ (1 ≤ o.bucket ∧ o.bucket ≤ 64) ∧ (o.data = 0 ∧ o.parity = 0 ∧ o.chunk = 0) then 0 else 9
def Opt.body (o : Opt) : Opt := ⟨o.block, o.plain, o.bucket, 0, 0, 0⟩
def optB (o : Opt) : Int := optE2 o.body
set_option maxHeartbeats 1000000 in
set_option maxRecDepth 100000 in
theorem ocheck2_any (w : World) (o : Opt) :
    Calls Tryz.prog 50 #[.int .i64 2, o.val] w fun e w' => e = .returned (.int .i64 (optE2 o)) ∧ Below w.heap.size w w' := by
  obtain ⟨bl, pl, bu, da, pa, ch⟩ := o
  unfold Opt.val optE2
  simp only
  have D := Lib.hid (fun wx => within_any wx bl 16 32768)
  have DB := Lib.hid (fun wx => within_any wx bu 1 64)
  have HE := opt_eql pl pl bl bl 0 0 da 0 pa 0 ch 0
  by_cases hb : 16 ≤ bl ∧ bl ≤ 32768
  · rw [decide_eq_true hb] at D
    by_cases hu : 1 ≤ bu ∧ bu ≤ 64
    · rw [decide_eq_true hu] at DB
      by_cases hz : da = 0 ∧ pa = 0 ∧ ch = 0
      · rw [if_pos ⟨hb, hu, hz⟩]
        have hd : decide (bl = bl ∧ pl = pl ∧ (0 : Int) = 0 ∧ da = 0 ∧ pa = 0 ∧ ch = 0) = true := decide_eq_true ⟨rfl, rfl, rfl, hz⟩
        rw [hd] at HE
        clear hb hz hd hu
        go_enter Tryz.func50, Tryz.ntmps50
        go_wp2_with fail
        refine (D.out _).mono ?_
        rintro e w1 ⟨rfl, rfl⟩
        go_wp2_with fail
        refine (DB.out _).mono ?_
        rintro e w1 ⟨rfl, rfl⟩
        go_wp2_with fail
        go_ret
        exact ⟨rfl, by (repeat (first | (with_reducible exact Below.refl _ _) | (with_reducible assumption) | (with_reducible refine Below.drew ?_) | (with_reducible refine below_drewN ?_ _) | ((with_reducible refine bel_set ?_ ?_); (focus (first | (simp; done) | (simp; omega) | omega | (simp at *; omega)))) | (with_reducible refine bel_alloc0 ?_) | (with_reducible refine bel_step0 (by assumption) ?_) | ((with_reducible refine bel_alloc ?_ ?_); (focus (first | (simp; done) | (simp; omega) | omega | (simp at *; omega)))) | ((with_reducible refine bel_step (by assumption) ?_ ?_); (focus (first | (simp; done) | (simp; omega) | omega | (simp at *; omega))))))⟩
      · rw [if_neg (fun h => hz h.2.2)]
        have hd : decide (bl = bl ∧ pl = pl ∧ (0 : Int) = 0 ∧ da = 0 ∧ pa = 0 ∧ ch = 0) = false := decide_eq_false (fun h => hz h.2.2.2)
        rw [hd] at HE
        clear hb hz hd hu
        go_enter Tryz.func50, Tryz.ntmps50
        go_wp2_with fail
        refine (D.out _).mono ?_
        rintro e w1 ⟨rfl, rfl⟩
        go_wp2_with fail
        refine (DB.out _).mono ?_
        rintro e w1 ⟨rfl, rfl⟩
        go_wp2_with fail
        go_ret
        exact ⟨rfl, by (repeat (first | (with_reducible exact Below.refl _ _) | (with_reducible assumption) | (with_reducible refine Below.drew ?_) | (with_reducible refine below_drewN ?_ _) | ((with_reducible refine bel_set ?_ ?_); (focus (first | (simp; done) | (simp; omega) | omega | (simp at *; omega)))) | (with_reducible refine bel_alloc0 ?_) | (with_reducible refine bel_step0 (by assumption) ?_) | ((with_reducible refine bel_alloc ?_ ?_); (focus (first | (simp; done) | (simp; omega) | omega | (simp at *; omega)))) | ((with_reducible refine bel_step (by assumption) ?_ ?_); (focus (first | (simp; done) | (simp; omega) | omega | (simp at *; omega))))))⟩
    · rw [decide_eq_false hu] at DB
      rw [if_neg (fun h => hu h.2.1)]
      clear hb hu HE
      go_enter Tryz.func50, Tryz.ntmps50
      go_wp2_with fail
      refine (D.out _).mono ?_
      rintro e w1 ⟨rfl, rfl⟩
      go_wp2_with fail
      refine (DB.out _).mono ?_
      rintro e w1 ⟨rfl, rfl⟩
      go_wp2_with fail
      go_ret
      exact ⟨rfl, by (repeat (first | (with_reducible exact Below.refl _ _) | (with_reducible assumption) | (with_reducible refine Below.drew ?_) | (with_reducible refine below_drewN ?_ _) | ((with_reducible refine bel_set ?_ ?_); (focus (first | (simp; done) | (simp; omega) | omega | (simp at *; omega)))) | (with_reducible refine bel_alloc0 ?_) | (with_reducible refine bel_step0 (by assumption) ?_) | ((with_reducible refine bel_alloc ?_ ?_); (focus (first | (simp; done) | (simp; omega) | omega | (simp at *; omega)))) | ((with_reducible refine bel_step (by assumption) ?_ ?_); (focus (first | (simp; done) | (simp; omega) | omega | (simp at *; omega))))))⟩
  · rw [decide_eq_false hb] at D
    rw [if_neg (fun h => hb h.1)]
    clear hb HE DB
    go_enter Tryz.func50, Tryz.ntmps50
    go_wp2_with fail
    refine (D.out _).mono ?_
    rintro e w1 ⟨rfl, rfl⟩
    go_wp2_with fail
    go_ret
    exact ⟨rfl, by (repeat (first | (with_reducible exact Below.refl _ _) | (with_reducible assumption) | (with_reducible refine Below.drew ?_) | (with_reducible refine below_drewN ?_ _) | ((with_reducible refine bel_set ?_ ?_); (focus (first | (simp; done) | (simp; omega) | omega | (simp at *; omega)))) | (with_reducible refine bel_alloc0 ?_) | (with_reducible refine bel_step0 (by assumption) ?_) | ((with_reducible refine bel_alloc ?_ ?_); (focus (first | (simp; done) | (simp; omega) | omega | (simp at *; omega)))) | ((with_reducible refine bel_step (by assumption) ?_ ?_); (focus (first | (simp; done) | (simp; omega) | omega | (simp at *; omega))))))⟩
set_option maxRecDepth 100000 in
theorem bcheck_any (w : World) (o : Opt) :
    Calls Tryz.prog 32 #[o.val] w fun e w' => e = .returned (.int .i64 (optB o)) ∧ Below w.heap.size w w' := by
  have D := Lib.hid (fun wx => ocheck2_any wx o.body)
  unfold optB
  obtain ⟨bl, pl, bu, da, pa, ch⟩ := o
  unfold Opt.body Opt.val at D
  unfold Opt.val Opt.body
  simp only at D ⊢
  generalize optE2 ⟨bl, pl, bu, 0, 0, 0⟩ = E at *
  go_enter Tryz.func32, Tryz.ntmps32
  go_wp2_with fail
  refine (D.out _).mono ?_
  rintro e w1 ⟨rfl, hb⟩
  have HB := Lib.hid hb
  clear hb D
  go_wp2_with fail
  go_ret
  exact ⟨rfl, bel_step0 HB.out (bel_alloc0 (Below.refl _ _))⟩
end Go.Proofs.YtcafklmbehoggaaGreatDoor.Opts
