/-
  Options: the walks of opts.within, opts.Check and the reference's Check for version 1. Logs: what they weigh, whether they may be: the walks of recs.Check and the reference's. Numbers of 64 bits and texts, written: nums.Num, nums.Text and the reference's. A record's bytes: the walks of recs.one and the reference's One. Logs' bytes: the walks of recs.Bytes and the reference's Bytes. Groups of a log: the walks of recs.Groups and the reference's. The walks of nums' cursor: Left, Num, Text; bytes as a string. Small steps of an archive of version 1: its mark, its flag; the plain form of its bytes. 
-/
import Derived.Test.YtmgjgkdbagbleaaGreatDoorZOneTurned1
import Derived.Test.YtmgjgkdbagbleaaGreatDoorZOneTurned13
import Derived.Test.YtmgjgkdbagbleaaGreatDoorZOneTurned14
import Derived.Test.YtmgjgkdbagbleaaGreatDoorZOneTurned15
import Derived.Test.YtmgjgkdbagbleaaGreatDoorZOneTurned28
import Derived.Test.YtmgjgkdbagbleaaGreatDoorZOneTurned20
import Derived.Test.YtmgjgkdbagbleaaGreatDoorZOneTurned6
import Derived.Test.YtmgjgkdbagbleaaGreatDoorZOneTurned21
import Derived.Test.YtmgjgkdbagbleaaGreatDoorZOneTurned3
import Derived.Test.YtmgjgkdbagbleaaGreatDoorZOneTurned2
import Derived.Test.YtmgjgkdbagbleaaGreatDoorZOneTurned5
import Derived.Test.YtmgjgkdbagbleaaGreatDoorZOneTurned4
import Derived.Test.YtmgjgkdbagbleaaGreatDoorZOneTurned26
import Derived.Test.YtmgjgkdbagbleaaGreatDoorZOneTurned24
import Derived.Test.YtmgjgkdbagbleaaGreatDoorZOneTurned22
import Derived.Test.YtmgjgkdbagbleaaGreatDoorZOneTurned27
import Derived.Test.YtmgjgkdbagbleaaGreatDoorProg
import Derived.BigQuiet
import Derived.BigGuardPart
import Derived.Deep.QuietTactic
import Derived.Deep.Light
import Derived.Lib.Hide
import Derived.Lib.AppendStr
import Derived.Lib.MinMax
import Derived.Laws.BytesArg
import Derived.Lib.SmallJoins
import Derived.Deep.DeepCutAuto
import Derived.Deep.RegionLaw
import Derived.Deep.AppendLies
import Derived.Deep.RegionHeld3
namespace Go.Proofs.YtmgjgkdbagbleaaGreatDoor.Opts
open Go.RowKit Go.Proofs.YtmgjgkdbagbleaaGreatDoor.Mem
structure Opt where
  block : Int
  plain : Bool
  bucket : Int
  data : Int
  parity : Int
  chunk : Int
def Opt.val (o : Opt) : Value := .agg #[.int .i64 o.block, .bool o.plain, .int .i64 o.bucket, .int .i64 o.data, .int .i64 o.parity, .int .i64 o.chunk]
def optE (o : Opt) : Int := if (16 ≤ o.block ∧ o.block ≤ 32768) ∧ (o.bucket = 0 ∧ o.data = 0 ∧ o.parity = 0 ∧ o.chunk = 0) then 0 else 9
theorem opt_eql (a b : Bool) (a0 b0 a2 b2 a3 b3 a4 b4 a5 b5 : Int) (w : World) : (binOp .eql 25 (.agg #[.int .i64 a0, .bool a, .int .i64 a2, .int .i64 a3, .int .i64 a4, .int .i64 a5]) (.agg #[.int .i64 b0, .bool b, .int .i64 b2, .int .i64 b3, .int .i64 b4, .int .i64 b5])).run Tryz.prog w = .ok (.bool (decide (a0 = b0 ∧ a = b ∧ a2 = b2 ∧ a3 = b3 ∧ a4 = b4 ∧ a5 = b5))) w := by
  go_simp
  by_cases h0 : a0 = b0 <;> by_cases h1 : a = b <;> by_cases h2 : a2 = b2 <;> by_cases h3 : a3 = b3 <;> by_cases h4 : a4 = b4 <;> by_cases h5 : a5 = b5 <;> simp [h0, h1, h2, h3, h4, h5]
theorem within_any (w : World) (x lo hi : Int) :
    Calls Tryz.prog 139 #[.int .i64 x, .int .i64 lo, .int .i64 hi] w fun e w' => e = .returned (.bool (decide (lo ≤ x ∧ x ≤ hi))) ∧ w' = w := by
  by_cases h : lo ≤ x
  · have g1 : decide (lo ≤ x) = true := by simpa using h
    have HD : Hid (decide (lo ≤ x ∧ x ≤ hi) = decide (x ≤ hi)) := by show _ = _; simp [h]
    rw [HD.out]
    clear h
    go_enter Tryz.func139, Tryz.ntmps139
    go_wp2_with fail
    go_ret
    exact ⟨rfl, rfl⟩
  · have g1 : decide (lo ≤ x) = false := by simpa using h
    have HD : Hid (decide (lo ≤ x ∧ x ≤ hi) = false) := by show _ = _; simp [h]
    rw [HD.out]
    clear h
    go_enter Tryz.func139, Tryz.ntmps139
    go_wp2_with fail
    go_ret
    exact ⟨rfl, rfl⟩
set_option maxRecDepth 100000 in
theorem ocheck_any (w : World) (o : Opt) :
    Calls Tryz.prog 75 #[.int .i64 1, o.val] w fun e w' => e = .returned (.int .i64 (optE o)) ∧ Below w.heap.size w w' := by
  obtain ⟨bl, pl, bu, da, pa, ch⟩ := o
  unfold Opt.val optE
  simp only
  have D := Lib.hid (fun wx => within_any wx bl 16 32768)
  have HE := opt_eql pl pl bl bl bu 0 da 0 pa 0 ch 0
  by_cases hb : 16 ≤ bl ∧ bl ≤ 32768
  · rw [decide_eq_true hb] at D
    by_cases hz : bu = 0 ∧ da = 0 ∧ pa = 0 ∧ ch = 0
    · rw [if_pos ⟨hb, hz⟩]
      have hd : decide (bl = bl ∧ pl = pl ∧ bu = 0 ∧ da = 0 ∧ pa = 0 ∧ ch = 0) = true := decide_eq_true ⟨rfl, rfl, hz⟩
      rw [hd] at HE
      clear hb hz hd
      go_enter Tryz.func75, Tryz.ntmps75
      go_wp2_with fail
      refine (D.out _).mono ?_
      rintro e w1 ⟨rfl, rfl⟩
      go_wp2_with fail
      go_ret
      exact ⟨rfl, by (repeat (first | (with_reducible exact Below.refl _ _) | (with_reducible assumption) | (with_reducible refine Below.drew ?_) | (with_reducible refine below_drewN ?_ _) | ((with_reducible refine bel_set ?_ ?_); (focus (first | (simp; done) | (simp; omega) | omega | (simp at *; omega)))) | (with_reducible refine bel_alloc0 ?_) | (with_reducible refine bel_step0 (by assumption) ?_) | ((with_reducible refine bel_alloc ?_ ?_); (focus (first | (simp; done) | (simp; omega) | omega | (simp at *; omega)))) | ((with_reducible refine bel_step (by assumption) ?_ ?_); (focus (first | (simp; done) | (simp; omega) | omega | (simp at *; omega))))))⟩
    · rw [if_neg (fun h => hz h.2)]
      have hd : decide (bl = bl ∧ pl = pl ∧ bu = 0 ∧ da = 0 ∧ pa = 0 ∧ ch = 0) = false := decide_eq_false (fun h => hz h.2.2)
      rw [hd] at HE
      clear hb hz hd
      go_enter Tryz.func75, Tryz.ntmps75
      go_wp2_with fail
      refine (D.out _).mono ?_
      rintro e w1 ⟨rfl, rfl⟩
      go_wp2_with fail
      go_ret
      exact ⟨rfl, by (repeat (first | (with_reducible exact Below.refl _ _) | (with_reducible assumption) | (with_reducible refine Below.drew ?_) | (with_reducible refine below_drewN ?_ _) | ((with_reducible refine bel_set ?_ ?_); (focus (first | (simp; done) | (simp; omega) | omega | (simp at *; omega)))) | (with_reducible refine bel_alloc0 ?_) | (with_reducible refine bel_step0 (by assumption) ?_) | ((with_reducible refine bel_alloc ?_ ?_); (focus (first | (simp; done) | (simp; omega) | omega | (simp at *; omega)))) | ((with_reducible refine bel_step (by assumption) ?_ ?_); (focus (first | (simp; done) | (simp; omega) | omega | (simp at *; omega))))))⟩
  · rw [decide_eq_false hb] at D
    rw [if_neg (fun h => hb h.1)]
    clear hb HE
    go_enter Tryz.func75, Tryz.ntmps75
    go_wp2_with fail
    refine (D.out _).mono ?_
    rintro e w1 ⟨rfl, rfl⟩
    go_wp2_with fail
    go_ret
    exact ⟨rfl, by (repeat (first | (with_reducible exact Below.refl _ _) | (with_reducible assumption) | (with_reducible refine Below.drew ?_) | (with_reducible refine below_drewN ?_ _) | ((with_reducible refine bel_set ?_ ?_); (focus (first | (simp; done) | (simp; omega) | omega | (simp at *; omega)))) | (with_reducible refine bel_alloc0 ?_) | (with_reducible refine bel_step0 (by assumption) ?_) | ((with_reducible refine bel_alloc ?_ ?_); (focus (first | (simp; done) | (simp; omega) | omega | (simp at *; omega)))) | ((with_reducible refine bel_step (by assumption) ?_ ?_); (focus (first | (simp; done) | (simp; omega) | omega | (simp at *; omega))))))⟩
end Go.Proofs.YtmgjgkdbagbleaaGreatDoor.Opts
namespace Go.Proofs.YtmgjgkdbagbleaaGreatDoor.Recs
open Go.RowKit Go.Proofs.YtmgjgkdbagbleaaGreatDoor.Mem
def Rec.val (r : Rec) : Value := .agg #[.int .u64 r.time, .int .u8 r.level, .string r.source, .string r.text]
def longB (r : Rec) : Bool := decide (4000 < r.source.size) || decide (4000 < r.text.size)
def chkE (l : List Rec) : Int := if 20000 < l.length then 6 else if l.any longB = true then 6 else if 1048576 < weight l then 6 else 0
theorem any_drop {l : List Rec} {p : Rec → Bool} {k : Nat} {r : Rec} (hr : l[k]? = some r) : (l.drop k).any p = (p r || (l.drop (k + 1)).any p) := by
  obtain ⟨hk, e⟩ := List.getElem?_eq_some_iff.1 hr
  rw [List.drop_eq_getElem_cons hk, List.any_cons, e]
theorem longB_false {r : Rec} (h : longB r = false) : r.source.size ≤ 4000 ∧ r.text.size ≤ 4000 := by
  unfold longB at h
  simp at h
  exact h
theorem weight_take {l : List Rec} {k : Nat} {r : Rec} (hr : l[k]? = some r) : weight (l.take (k + 1)) = weight (l.take k) + weigh r := by
  rw [List.take_add_one, hr]
  simp [weight_snoc]
theorem weight_le {l : List Rec} (h : ∀ r ∈ l, longB r = false) : 0 ≤ weight l ∧ weight l ≤ 8016 * (l.length : Int) := by
  induction l with
  | nil => simp [weight_nil]
  | cons r l ih =>
    have h1 := longB_false (h r (by simp))
    have h2 := ih (fun x hx => h x (by simp [hx]))
    have e : weight (r :: l) = weigh r + weight l := by
      simp only [weight, List.map_cons, List.foldl_cons]
      rw [foldl_add]
      omega
    rw [e]
    unfold weigh
    simp only [List.length_cons]
    push_cast
    omega
theorem long_any (w : World) (r : Rec) :
    Calls Tryz.prog 142 #[r.val] w fun e w' => e = .returned (.bool (longB r)) ∧ Below w.heap.size w w' := by
  unfold Rec.val
  by_cases h1 : 4000 < r.source.size
  · have hl : longB r = true := by unfold longB; simp [h1]
    rw [hl]
    have g1 : decide ((4000 : Int) < (r.source.size : Int)) = true := by simp; omega
    have g1' : decide (4000 < r.source.size) = true := by simp; omega
    clear hl h1
    go_enter Tryz.func142, Tryz.ntmps142
    go_wp2_with fail
    go_ret
    exact ⟨rfl, by (repeat (first | (with_reducible exact Below.refl _ _) | (with_reducible assumption) | (with_reducible refine Below.drew ?_) | (with_reducible refine below_drewN ?_ _) | ((with_reducible refine bel_set ?_ ?_); (focus (first | (simp; done) | (simp; omega) | omega | (simp at *; omega)))) | (with_reducible refine bel_alloc0 ?_) | (with_reducible refine bel_step0 (by assumption) ?_) | ((with_reducible refine bel_alloc ?_ ?_); (focus (first | (simp; done) | (simp; omega) | omega | (simp at *; omega)))) | ((with_reducible refine bel_step (by assumption) ?_ ?_); (focus (first | (simp; done) | (simp; omega) | omega | (simp at *; omega))))))⟩
  · have g1 : decide ((4000 : Int) < (r.source.size : Int)) = false := by simp; omega
    have g1' : decide (4000 < r.source.size) = false := by simp; omega
    by_cases h2 : 4000 < r.text.size
    · have hl : longB r = true := by unfold longB; simp [h2]
      rw [hl]
      have g2 : decide ((4000 : Int) < (r.text.size : Int)) = true := by simp; omega
      have g2' : decide (4000 < r.text.size) = true := by simp; omega
      clear hl h1 h2
      go_enter Tryz.func142, Tryz.ntmps142
      go_wp2_with fail
      go_ret
      exact ⟨rfl, by (repeat (first | (with_reducible exact Below.refl _ _) | (with_reducible assumption) | (with_reducible refine Below.drew ?_) | (with_reducible refine below_drewN ?_ _) | ((with_reducible refine bel_set ?_ ?_); (focus (first | (simp; done) | (simp; omega) | omega | (simp at *; omega)))) | (with_reducible refine bel_alloc0 ?_) | (with_reducible refine bel_step0 (by assumption) ?_) | ((with_reducible refine bel_alloc ?_ ?_); (focus (first | (simp; done) | (simp; omega) | omega | (simp at *; omega)))) | ((with_reducible refine bel_step (by assumption) ?_ ?_); (focus (first | (simp; done) | (simp; omega) | omega | (simp at *; omega))))))⟩
    · have hl : longB r = false := by unfold longB; simp; omega
      rw [hl]
      have g2 : decide ((4000 : Int) < (r.text.size : Int)) = false := by simp; omega
      have g2' : decide (4000 < r.text.size) = false := by simp; omega
      clear hl h1 h2
      go_enter Tryz.func142, Tryz.ntmps142
      go_wp2_with fail
      go_ret
      exact ⟨rfl, by (repeat (first | (with_reducible exact Below.refl _ _) | (with_reducible assumption) | (with_reducible refine Below.drew ?_) | (with_reducible refine below_drewN ?_ _) | ((with_reducible refine bel_set ?_ ?_); (focus (first | (simp; done) | (simp; omega) | omega | (simp at *; omega)))) | (with_reducible refine bel_alloc0 ?_) | (with_reducible refine bel_step0 (by assumption) ?_) | ((with_reducible refine bel_alloc ?_ ?_); (focus (first | (simp; done) | (simp; omega) | omega | (simp at *; omega)))) | ((with_reducible refine bel_step (by assumption) ?_ ?_); (focus (first | (simp; done) | (simp; omega) | omega | (simp at *; omega))))))⟩
set_option maxRecDepth 100000 in
theorem rindex_any (w : World) (A : Option Addr) (n c : Nat) (l : List Rec) (hl : l.length = n) (hn : n ≤ 9223372036854775807) (hr : Row w w.heap.size A n 4 (recF l)) (K : Nat) (p : Rec → Bool) (hK : ∀ args wx, (callFunc K args).run Tryz.prog wx = .ok (.enter K args) wx)
    (hp : ∀ wx r, Calls Tryz.prog K #[Rec.val r] wx fun e w' => e = .returned (.bool (p r)) ∧ Below wx.heap.size wx w') :
    Calls Tryz.prog 202 #[.slice A n c, .func (.func K) #[] #[]] w fun e w' => ∃ z : Int, e = .returned (.int .i64 z) ∧ decide (0 ≤ z) = l.any p ∧ Below w.heap.size w w' := by
  have HP := Lib.hid hp
  have HL := Lib.hid hl
  clear hp hl
  go_enter Tryz.func202, Tryz.ntmps202
  go_wp2_with fail
  go_loopw [8] (fun i wx => ∃ k : Nat, k ≤ n ∧ i = .int .i64 k ∧ Hid ((l.drop k).any p = l.any p) ∧ Hid (Below w.heap.size w wx)) (fun i _ => n - (intOf i).toNat)
  case atStart => exact ⟨0, by omega, rfl, rfl, Below.refl _ _⟩
  case round =>
    obtain ⟨k, hk, rfl, hA, HB⟩ := hrel
    by_cases hlt : k < n
    · obtain ⟨b, off, r, rfl, hbb, hg, c0, c1, c2, c3⟩ := Row.rec (hr.below HB.out) HL.out hlt
      have ha := hA.out
      rw [any_drop hg] at ha
      have D := HP.out wr r
      unfold Rec.val at D
      have x0 : (0 : Int) ≤ (k : Int) := by omega
      have x1 : (k : Int) < (n : Int) := by omega
      cases hb : p r
      · rw [hb] at D ha
        rw [Bool.false_or] at ha
        have D := Lib.hid D
        have HA := Lib.hid ha
        clear hA ha hb hg
        go_wp2_with fail
        refine D.out.mono ?_
        rintro e w1 ⟨rfl, hb1⟩
        have HB1 : Hid (Below w.heap.size w w1) := bel_step0 hb1 HB.out
        clear hb1 D c0 c1 c2 c3
        go_wp2_with fail
        go_roundw
        case measure => go_light; simp [intOf]; omega
        case rel => go_light; exact ⟨k + 1, by omega, by go_num, HA.out, HB1.out⟩
      · rw [hb] at D ha
        rw [Bool.true_or] at ha
        have D := Lib.hid D
        have HA := Lib.hid ha
        clear hA ha hb hg
        go_wp2_with fail
        refine D.out.mono ?_
        rintro e w1 ⟨rfl, hb1⟩
        have HB1 : Hid (Below w.heap.size w w1) := bel_step0 hb1 HB.out
        clear hb1 D c0 c1 c2 c3
        go_wp2_with fail
        go_ret
        exact ⟨k, rfl, by rw [← HA.out]; simp, HB1.out⟩
    · obtain rfl : k = n := by omega
      have ha := hA.out
      rw [List.drop_of_length_le (by rw [HL.out]; exact Nat.le_refl _)] at ha
      have HA := Lib.hid ha
      clear ha hA
      go_wp2_with fail
      go_ret
      exact ⟨-1, rfl, by rw [← HA.out]; rfl, HB.out⟩
set_option maxRecDepth 100000 in
theorem rcontains_any (w : World) (A : Option Addr) (n c : Nat) (l : List Rec) (hl : l.length = n) (hn : n ≤ 9223372036854775807) (hr : Row w w.heap.size A n 4 (recF l)) :
    Calls Tryz.prog 141 #[.slice A n c, .func (.func 142) #[] #[]] w fun e w' => e = .returned (.bool (l.any longB)) ∧ Below w.heap.size w w' := by
  have D := Lib.hid (rindex_any w A n c l hl hn hr 142 longB (by intro args wx; simp [callFunc, go_sem, Tryz.func142]; rfl) long_any)
  clear hl hr
  go_enter Tryz.func141, Tryz.ntmps141
  go_wp2_with fail
  refine D.out.mono ?_
  rintro e w1 ⟨z, rfl, hz, hb⟩
  have HZ := Lib.hid hz
  clear hz D
  go_wp2_with fail
  go_ret
  exact ⟨ret_bool HZ.out, hb⟩
set_option maxHeartbeats 400000 in
set_option maxRecDepth 100000 in
theorem rweight_any (w : World) (A : Option Addr) (n c : Nat) (l : List Rec) (hl : l.length = n) (hn : n ≤ 20000) (hs : ∀ r ∈ l, longB r = false) (hr : Row w w.heap.size A n 4 (recF l)) :
    Calls Tryz.prog 143 #[.slice A n c] w fun e w' => e = .returned (.int .i64 (weight l)) ∧ Below w.heap.size w w' := by
  have HL := Lib.hid hl
  have HS := Lib.hid hs
  have HT : Hid (∀ k, k ≤ n → 0 ≤ weight (l.take k) ∧ weight (l.take k) ≤ 160320000) := fun k hk => by
    have h := weight_le (l := l.take k) (fun r hr => hs r (List.mem_of_mem_take hr))
    have hk2 : (l.take k).length ≤ n := by rw [List.length_take]; omega
    omega
  clear hl hs
  go_enter Tryz.func143, Tryz.ntmps143
  go_wp2_with fail
  go_loopw [3, 8] (fun s i wx => ∃ (k : Nat) (x : Int), k ≤ n ∧ i = .int .i64 k ∧ s = .int .i64 x ∧ Hid (weight (l.take k) = x) ∧ Hid (Below w.heap.size w wx)) (fun _ i _ => n - (intOf i).toNat)
  case atStart => exact ⟨0, 0, by omega, rfl, rfl, rfl, Below.refl _ _⟩
  case round =>
    obtain ⟨k, x, hk, rfl, rfl, hx, HB⟩ := hrel
    by_cases hlt : k < n
    · obtain ⟨b, off, r, rfl, hbb, hg, c0, c1, c2, c3⟩ := Row.rec (hr.below HB.out) HL.out hlt
      have hxl := HT.out k hk
      rw [hx.out] at hxl
      have hlr := longB_false (HS.out r (List.mem_of_getElem? hg))
      have HW : Hid (weight (l.take (k + 1)) = x + weigh r) := by show _ = _; rw [weight_take hg, hx.out]
      unfold weigh at HW
      have x0 : (0 : Int) ≤ (k : Int) := by omega
      have x1 : (k : Int) < (n : Int) := by omega
      have s1 : IntKind.i64.wrap (16 + (r.source.size : Int)) = 16 + (r.source.size : Int) := IntWalk.i64_in _ (by omega)
      have s2 : IntKind.i64.wrap (16 + (r.source.size : Int) + (r.text.size : Int)) = 16 + (r.source.size : Int) + (r.text.size : Int) := IntWalk.i64_in _ (by omega)
      have s3 : IntKind.i64.wrap (x + (16 + (r.source.size : Int) + (r.text.size : Int))) = x + (16 + (r.source.size : Int) + (r.text.size : Int)) := IntWalk.i64_in _ (by omega)
      have HB2 := HB.out.size
      clear hg hx
      go_wp2_with fail
      go_roundw
      case measure => go_light; simp [intOf]; omega
      case rel => go_light; exact ⟨k + 1, x + (16 + (r.source.size : Int) + (r.text.size : Int)), by omega, by first | rfl | go_num, by first | rfl | go_num, HW.out, by have h := HB.out; show Below w.heap.size w _; (repeat (first | (with_reducible exact Below.refl _ _) | (with_reducible assumption) | (with_reducible refine Below.drew ?_) | (with_reducible refine below_drewN ?_ _) | ((with_reducible refine bel_set ?_ ?_); (focus (first | (simp; done) | (simp; omega) | omega | (simp at *; omega)))) | (with_reducible refine bel_alloc0 ?_) | (with_reducible refine bel_step0 (by assumption) ?_) | ((with_reducible refine bel_alloc ?_ ?_); (focus (first | (simp; done) | (simp; omega) | omega | (simp at *; omega)))) | ((with_reducible refine bel_step (by assumption) ?_ ?_); (focus (first | (simp; done) | (simp; omega) | omega | (simp at *; omega))))))⟩
    · obtain rfl : k = n := by omega
      have hx2 := hx.out
      rw [List.take_of_length_le (by rw [HL.out]; exact Nat.le_refl _)] at hx2
      have HX := Lib.hid hx2
      clear hx2 hx
      go_wp2_with fail
      go_ret
      exact ⟨by rw [HX.out]; rfl, HB.out⟩
set_option maxRecDepth 100000 in
theorem rcheck_any (w : World) (A : Option Addr) (n c : Nat) (l : List Rec) (hl : l.length = n) (hn : n ≤ 9223372036854775807) (hr : Row w w.heap.size A n 4 (recF l)) :
    Calls Tryz.prog 76 #[.slice A n c] w fun e w' => e = .returned (.int .i64 (chkE l)) ∧ Below w.heap.size w w' := by
  have D1 := Lib.hid (rcontains_any w A n c l hl hn hr)
  unfold chkE
  rw [hl]
  by_cases h1 : 20000 < n
  · rw [if_pos h1]
    have g1 : decide ((20000 : Int) < (n : Int)) = true := by simp; omega
    have g1' : decide (20000 < n) = true := by simp; omega
    clear h1 hl hr D1
    go_enter Tryz.func76, Tryz.ntmps76
    go_wp2_with fail
    go_ret
    exact ⟨rfl, Below.refl _ _⟩
  · rw [if_neg h1]
    have g1 : decide ((20000 : Int) < (n : Int)) = false := by simp; omega
    have g1' : decide (20000 < n) = false := by simp; omega
    cases hlo : l.any longB with
    | true =>
      rw [if_pos rfl]
      rw [hlo] at D1
      clear h1 hl hr hlo
      go_enter Tryz.func76, Tryz.ntmps76
      go_wp2_with fail
      refine D1.out.mono ?_
      rintro e w1 ⟨rfl, hb⟩
      go_wp2_with fail
      go_ret
      exact ⟨rfl, hb⟩
    | false =>
      rw [if_neg (by simp)]
      rw [hlo] at D1
      have hs : ∀ r ∈ l, longB r = false := fun r h => by
        have := List.any_eq_false.1 hlo r h
        simpa using this
      have D2 := Lib.hid (fun wx (hb : Below w.heap.size w wx) => rweight_any wx A n c l hl (by omega) hs ((hr.below hb).mono hb.size))
      generalize weight l = x at *
      by_cases h2 : 1048576 < x
      · rw [if_pos h2]
        have g2 : decide (1048576 < x) = true := by simpa using h2
        clear h1 hl hr hlo hs h2
        go_enter Tryz.func76, Tryz.ntmps76
        go_wp2_with fail
        refine D1.out.mono ?_
        rintro e w1 ⟨rfl, hb⟩
        have E2 := Lib.hid (D2.out w1 hb)
        clear D1 D2
        go_wp2_with fail
        refine E2.out.mono ?_
        rintro e w2 ⟨rfl, hb2⟩
        go_wp2_with fail
        go_ret
        exact ⟨rfl, bel_step0 hb2 hb⟩
      · rw [if_neg h2]
        have g2 : decide (1048576 < x) = false := by simpa using h2
        clear h1 hl hr hlo hs h2
        go_enter Tryz.func76, Tryz.ntmps76
        go_wp2_with fail
        refine D1.out.mono ?_
        rintro e w1 ⟨rfl, hb⟩
        have E2 := Lib.hid (D2.out w1 hb)
        clear D1 D2
        go_wp2_with fail
        refine E2.out.mono ?_
        rintro e w2 ⟨rfl, hb2⟩
        go_wp2_with fail
        go_ret
        exact ⟨rfl, bel_step0 hb2 hb⟩
end Go.Proofs.YtmgjgkdbagbleaaGreatDoor.Recs
namespace Go.Proofs.YtmgjgkdbagbleaaGreatDoor.NumPut
open Go.RowKit Go.Proofs.YtmgjgkdbagbleaaGreatDoor.Mem Go.Proofs.YtmgjgkdbagbleaaGreatDoor.Own Go.Proofs.YtmgjgkdbagbleaaGreatDoor.Canon
theorem big_step {X k : Nat} (h : X * 2 ^ (7 * k) < 18446744073709551616) (h128 : 128 ≤ X) : k + 1 ≤ 9 ∧ X / 128 * 2 ^ (7 * (k + 1)) < 18446744073709551616 := by
  have e : 2 ^ (7 * (k + 1)) = 128 * 2 ^ (7 * k) := by rw [show 7 * (k + 1) = 7 * k + 7 by omega, Nat.pow_add]; omega
  constructor
  · by_cases hk : k + 1 ≤ 9
    · exact hk
    · exfalso
      have h1 : 2 ^ 63 ≤ 2 ^ (7 * k) := Nat.pow_le_pow_right (by omega) (by omega)
      have h2 : 128 * 2 ^ 63 ≤ X * 2 ^ (7 * k) := Nat.mul_le_mul h128 h1
      omega
  · rw [e, ← Nat.mul_assoc]
    have : X / 128 * 128 * 2 ^ (7 * k) ≤ X * 2 ^ (7 * k) := Nat.mul_le_mul_right _ (Nat.div_mul_le_self _ _)
    omega
theorem numB_len10 : ∀ (x k : Nat), x * 2 ^ (7 * k) < 18446744073709551616 → k ≤ 9 → (numB x).length + k ≤ 10 := by
  intro x
  induction x using Nat.strongRecOn with
  | _ x ih =>
    intro k h hk
    by_cases h1 : x < 128
    · rw [numB_low h1]; simp; omega
    · obtain ⟨s1, s2⟩ := big_step h (by omega)
      have := ih (x / 128) (by omega) (k + 1) s2 s1
      rw [numB_high h1, List.length_cons]
      omega
theorem numB_len64 {x : Nat} (h : x < 18446744073709551616) : (numB x).length ≤ 10 := by
  have := numB_len10 x 0 (by simpa using h) (by omega)
  omega
set_option maxHeartbeats 1000000 in
set_option maxRecDepth 100000 in
theorem num64_any (w : World) (x : Nat) (hx : x < 18446744073709551616) :
    Calls Tryz.prog 80 #[.int .u64 x] w fun e w' => ∃ v, e = .returned v ∧ w'.ownsRow w.heap.size 5 1 v (numB x).length (numL .u8 (numB x)) ∧ Below w.heap.size w w' := by
  obtain ⟨j0, hj0, hy0, hy1, hy2⟩ := info_parts info_u8
  obtain ⟨R, hR⟩ : ∃ R, R = numB x := ⟨_, rfl⟩
  have HR0 : Hid ([] ++ numB x = R) := hR.symm
  have HX0 : Hid (x * 2 ^ (7 * 0) < 18446744073709551616) := by show _ < _; simpa using hx
  rw [← hR]
  clear hR
  go_enter Tryz.func80, Tryz.ntmps80
  go_wp2_with fail
  go_loopw [0, 3] (fun u v wr => ∃ (X k : Nat) (done : List Nat), u = .int .u64 X ∧ k ≤ 9 ∧ X < 18446744073709551616 ∧ Hid (X * 2 ^ (7 * k) < 18446744073709551616) ∧ Hid (done.length = k) ∧ Hid (done ++ numB X = R) ∧ Hid (wr.ownsRow w.heap.size 5 1 v k (numL .u8 done)) ∧ Hid (Below w.heap.size w wr)) (fun u _ _ => (intOf u).toNat)
  case atStart => exact ⟨x, 0, [], rfl, by omega, hx, HX0.out, rfl, HR0.out, World.ownsRow_nil _ _ _ _, Below.refl _ _⟩
  case round =>
    obtain ⟨X, k, done, rfl, hk, hX, HX, HL, HR, HO, HB⟩ := hrel
    clear HR0 HX0
    have zb := HB.out.size
    by_cases h128 : X < 128
    · have g1 : decide ((128 : Int) ≤ (X : Int)) = false := by simp; omega
      have g1' : decide (128 ≤ X) = false := by simp; omega
      have c1 : IntKind.u8.wrap (X : Int) = (X : Int) := by rw [IntKind.wrap_u8']; omega
      have HR2 : Hid (done ++ [X] = R) := by have h := HR.out; rw [numB_low h128] at h; exact h
      go_wp2_with (at_builtin; refine wpList_app rfl (.tmp 14) (.tmp 17) 22 rfl w.heap.size 5 j0 _ 1 1 Tryz.underlying22 hj0 hy0 hy1 hy2 rfl (by decide) _ _ _ (by rfl) (HO.out.alloc _) _ 1 1 [.int .u8 (X : Nat)] (by rfl) (Src.of_blk (g := wr.heap.size) (Blk.made _ _ _) 1 1 1 rfl) (by intro u hu; simp at hu; rcases hu with rfl; rfl) (by unfold maxLen; omega) (by omega) (by simp; omega) ?_; intro v4 w4 hown4 hg4 hat4)
      have hown5 : Hid (w4.ownsRow w.heap.size 5 1 v4 R.length (numL .u8 R)) := by
        rw [← HR2.out, List.length_append, HL.out, numL_end]
        exact hown4
      have hb5 : Hid (Below w.heap.size w w4) := (bel_alloc0 HB.out).grown hg4 (by simp; omega) (fun y hy => (World.ownsRow.lt HO.out y hy).1)
      go_ret
      exact ⟨_, rfl, hown5.out, hb5.out⟩
    · have g1 : decide ((128 : Int) ≤ (X : Int)) = true := by simp; omega
      have g1' : decide (128 ≤ X) = true := by simp; omega
      have c1 : IntKind.u8.wrap (X : Int) = ((X % 256 : Nat) : Int) := by rw [IntKind.wrap_u8']; omega
      have o1 : bits .or .u8 ((X % 256 : Nat) : Int) 128 = ((X % 128 + 128 : Nat) : Int) := by
        rw [show (128 : Int) = ((128 : Nat) : Int) from rfl, u8_or_nat _ _ (by omega) (by omega), or128 _ (by omega)]
        congr 1
        omega
      have HR2 : Hid ((done ++ [X % 128 + 128]) ++ numB (X / 128) = R) := by have h := HR.out; rw [numB_high h128] at h; rw [List.append_assoc]; exact h
      obtain ⟨hs1, hs2⟩ := big_step HX.out (by omega)
      have HX2 := Lib.hid hs2
      obtain ⟨b, hb⟩ : ∃ b, b = X % 128 + 128 := ⟨_, rfl⟩
      obtain ⟨a, ha⟩ : ∃ a, a = X % 256 := ⟨_, rfl⟩
      rw [← hb] at o1 HR2
      rw [← ha] at o1 c1
      clear hb ha hs2
      go_wp2_with (at_builtin; refine wpList_app rfl (.tmp 6) (.tmp 10) 22 rfl w.heap.size 5 j0 _ 1 1 Tryz.underlying22 hj0 hy0 hy1 hy2 rfl (by decide) _ _ _ (by rfl) (HO.out.alloc _) _ 1 1 [.int .u8 (b : Nat)] (by rfl) (Src.of_blk (g := wr.heap.size) (Blk.made _ _ _) 1 1 1 rfl) (by intro u hu; simp at hu; rcases hu with rfl; rfl) (by unfold maxLen; omega) (by omega) (by simp; omega) ?_; intro v4 w4 hown4 hg4 hat4)
      have HO5 : Hid (w4.ownsRow w.heap.size 5 1 v4 (k + 1) (numL .u8 (done ++ [b]))) := by rw [numL_end]; exact hown4
      have hb5 : Hid (Below w.heap.size w w4) := (bel_alloc0 HB.out).grown hg4 (by simp; omega) (fun y hy => (World.ownsRow.lt HO.out y hy).1)
      exact ⟨⟨X / 128, k + 1, done ++ [b], congrArg _ (by omega), by omega, by omega, HX2.out, by show _ = _; rw [List.length_append, HL.out]; rfl, HR2.out, HO5.out, hb5.out⟩, by simp [intOf]; omega⟩
def sB (s : ByteArray) : List Nat := s.data.toList.map UInt8.toNat
theorem sB_length (s : ByteArray) : (sB s).length = s.size := by
  unfold sB
  rw [List.length_map, Array.length_toList]
  rfl
theorem sB_u8 (s : ByteArray) : ∀ x ∈ sB s, x ≤ 255 := fun x hx => by
  obtain ⟨c, _, rfl⟩ := List.mem_map.1 hx
  have := c.toNat_lt
  omega
theorem sB_cells (s : ByteArray) : numL .u8 (sB s) = Lib.strCells s := by
  unfold numL sB Lib.strCells
  rw [List.map_map]
  rfl
def textB (s : ByteArray) : List Nat := numB s.size ++ sB s
theorem textB_u8 (s : ByteArray) : ∀ x ∈ textB s, x ≤ 255 := fun x hx => by
  rcases List.mem_append.1 hx with hx | hx
  · exact numB_u8 _ x hx
  · exact sB_u8 s x hx
theorem textB_len {s : ByteArray} (h : s.size ≤ 100000) : (textB s).length ≤ 3 + s.size ∧ s.size < (textB s).length := by
  have h1 : (numB s.size).length ≤ 3 := by
    by_cases h1 : s.size < 128
    · rw [numB_low h1]; simp
    · rw [numB_high h1, List.length_cons]
      by_cases h2 : s.size / 128 < 128
      · rw [numB_low h2]; simp
      · rw [numB_high h2, numB_low (by omega)]; simp
  have h2 : 1 ≤ (numB s.size).length := by
    by_cases h1 : s.size < 128
    · rw [numB_low h1]; simp
    · rw [numB_high h1, List.length_cons]; omega
  unfold textB
  rw [List.length_append, sB_length]
  omega
theorem info_u8s : (Tryz.prog.info? 5).map (fun i => (i.zero, i.size, i.bytes)) = some (some (.int .u8 0), 1, 1) := by kernel_rfl
set_option maxRecDepth 100000 in
theorem text_any (w : World) (s : ByteArray) (hs : s.size ≤ 100000) :
    Calls Tryz.prog 203 #[.string s] w fun e w' => ∃ v, e = .returned v ∧ w'.ownsRow w.heap.size 5 1 v (textB s).length (numL .u8 (textB s)) ∧ Below w.heap.size w w' := by
  obtain ⟨j0, hj0, hy0, hy1, hy2⟩ := info_parts info_u8s
  have D := Lib.hid (num64_any w s.size (by omega))
  have hl := numB_len64 (x := s.size) (by omega)
  have u1 : IntKind.u64.wrap (s.size : Int) = (s.size : Int) := by rw [IntKind.wrap_u64]; omega
  have HT : Hid (numL .u8 (textB s) = numL .u8 (numB s.size) ++ Lib.strCells s ∧ (textB s).length = (numB s.size).length + s.size) := ⟨by rw [← sB_cells]; simp [textB, numL], by unfold textB; rw [List.length_append, sB_length]⟩
  generalize textB s = T at *
  generalize numB s.size = X at *
  obtain ⟨k, hk⟩ : ∃ k, k = X.length := ⟨_, rfl⟩
  rw [← hk] at D hl HT
  clear hk
  go_enter Tryz.func203, Tryz.ntmps203
  go_wp2_with fail
  refine D.out.mono ?_
  rintro e w1 ⟨v, rfl, ho, hb⟩
  have HO := Lib.hid ho
  have HB := Lib.hid hb
  have hz := hb.size
  clear ho hb D
  go_wp2_with (at_builtin; refine Lib.wpList_append_own_string w1 rfl (.tmp 6) (.tmp 7) 22 9 rfl w.heap.size 5 j0 Tryz.underlying22 Tryz.underlying9 hj0 hy0 hy1 hy2 _ k _ (by rfl) HO.out s (by rfl) (by unfold maxLen; omega) (by omega) hz ?_; intro v4 w4 hown4 hg4 hnil4; have HB4 : Hid (Below w.heap.size w w4) := HB.out.grown hg4 hz (fun y hy => (World.ownsRow.lt HO.out y hy).1); have HO4 : Hid (w4.ownsRow w.heap.size 5 1 v4 T.length (numL .u8 T)) := (by rw [HT.out.1, HT.out.2]; exact hown4); clear hown4 hg4 hnil4)
  go_ret
  exact ⟨_, rfl, HO4.out, HB4.out⟩
end Go.Proofs.YtmgjgkdbagbleaaGreatDoor.NumPut
namespace Go.Proofs.YtmgjgkdbagbleaaGreatDoor.Recs
open Go.RowKit Go.Proofs.YtmgjgkdbagbleaaGreatDoor.Mem Go.Proofs.YtmgjgkdbagbleaaGreatDoor.Own Go.Proofs.YtmgjgkdbagbleaaGreatDoor.Canon Go.Proofs.YtmgjgkdbagbleaaGreatDoor.NumPut
open Go.Proofs.YtmgjgkdbagbleaaGreatDoor.Nums (step_app)
open Go.Proofs.YtmgjgkdbagbleaaGreatDoor.Block (part_own)
def RecOk (r : Rec) : Prop := 0 ≤ r.time ∧ r.time < 18446744073709551616 ∧ 0 ≤ r.level ∧ r.level ≤ 255
def headB (wh : Bool) (r : Rec) : List Nat := if wh = true then numB r.time.toNat ++ [r.level.toNat] else []
def oneB (wh : Bool) (r : Rec) : List Nat := headB wh r ++ (textB r.source ++ textB r.text)
theorem headB_len (wh : Bool) {r : Rec} (h : RecOk r) : (headB wh r).length ≤ 11 := by
  unfold headB
  split
  · have := numB_len64 (x := r.time.toNat) (by have := h.1; have := h.2.1; omega)
    rw [List.length_append]
    simp
    omega
  · simp
theorem headB_u8 (wh : Bool) {r : Rec} (h : RecOk r) : ∀ x ∈ headB wh r, x ≤ 255 := by
  unfold headB
  split
  · intro x hx
    rcases List.mem_append.1 hx with hx | hx
    · exact numB_u8 _ x hx
    · simp at hx
      have := h.2.2
      omega
  · intro x hx; cases hx
theorem oneB_u8 (wh : Bool) {r : Rec} (h : RecOk r) : ∀ x ∈ oneB wh r, x ≤ 255 := fun x hx => by
  unfold oneB at hx
  simp only [List.mem_append] at hx
  rcases hx with hx | hx | hx
  · exact headB_u8 wh h x hx
  · exact textB_u8 _ x hx
  · exact textB_u8 _ x hx
theorem oneB_len (wh : Bool) {r : Rec} (h : RecOk r) (hl : longB r = false) : (oneB wh r).length ≤ 17 + r.source.size + r.text.size ∧ 2 ≤ (oneB wh r).length := by
  obtain ⟨h1, h2⟩ := longB_false hl
  have a := headB_len wh h
  have b := textB_len (s := r.source) (by omega)
  have c := textB_len (s := r.text) (by omega)
  unfold oneB
  rw [List.length_append, List.length_append]
  omega
def OnePost (wh : Bool) (r : Rec) (w : World) (e : Ending) (w' : World) : Prop :=
  ∃ v, e = .returned v ∧ w'.ownsRow w.heap.size 5 1 v (oneB wh r).length (numL .u8 (oneB wh r)) ∧ Below w.heap.size w w'
set_option maxHeartbeats 2000000 in
set_option maxRecDepth 100000 in
theorem one_any (w : World) (wh : Bool) (r : Rec) (hr : RecOk r) (hl : longB r = false) :
    Calls Tryz.prog 144 #[.bool wh, r.val] w (OnePost wh r w) := by
  obtain ⟨j0, hj0, hy0, hy1, hy2⟩ := info_parts info_u8
  obtain ⟨h1, h2⟩ := longB_false hl
  obtain ⟨t1, t2, l1, l2⟩ := hr
  have hhl := headB_len wh (r := r) ⟨t1, t2, l1, l2⟩
  have b1 := textB_len (s := r.source) (by omega)
  have b2 := textB_len (s := r.text) (by omega)
  unfold OnePost oneB
  obtain ⟨tm, lv, src, txt⟩ := r
  obtain ⟨t, rfl⟩ := Int.eq_ofNat_of_zero_le t1
  obtain ⟨l, rfl⟩ := Int.eq_ofNat_of_zero_le l1
  unfold Rec.val
  simp only at *
  clear hl
  have D1 := Lib.hid (fun wx => num64_any wx t (by omega))
  have D2 := Lib.hid (fun wx => text_any wx src (by omega))
  have D3 := Lib.hid (fun wx => text_any wx txt (by omega))
  cases wh with
  | true =>
    have HH : Hid (headB true ⟨(t : Nat), (l : Nat), src, txt⟩ = numB t ++ [l]) := rfl
    have hnl := numB_len64 (x := t) (by omega)
    generalize headB true ⟨(t : Nat), (l : Nat), src, txt⟩ = H at *
    generalize numB t = N1 at *
    generalize textB src = T1 at *
    generalize textB txt = T2 at *
    go_enter Tryz.func144, Tryz.ntmps144
    go_upto_region 3 with fail
    have hba : Blk (w.alloc (.cells #[.int .u64 t, .int .u8 l, .string src, .string txt] 77)) w.heap.size 77 #[.int .u64 t, .int .u8 l, .string src, .string txt] := Blk.made _ _ _
    have hbw : Below w.heap.size w (w.alloc (.cells #[.int .u64 t, .int .u8 l, .string src, .string txt] 77)) := bel_alloc0 (Below.refl _ _)
    have hzw : (w.alloc (.cells #[.int .u64 t, .int .u8 l, .string src, .string txt] 77)).heap.size = w.heap.size + 1 := by simp
    generalize w.alloc (.cells #[.int .u64 t, .int .u8 l, .string src, .string txt] 77) = wa at *
    have HBA := Lib.hid hba
    have HBW := Lib.hid hbw
    have hzw2 : w.heap.size < wa.heap.size := by omega
    have HS : Hid (∀ wx, Below wa.heap.size wa wx → wx.cell? ⟨w.heap.size, 0, none⟩ = some (.int .u64 t) ∧ wx.cell? ⟨w.heap.size, 1, none⟩ = some (.int .u8 l)) := fun wx h => ⟨(hba.step h).cell 0, (hba.step h).cell 1⟩
    clear hba hbw hzw
    go_region_held3 (fun wx => wx.cell? ⟨w.heap.size, 0, none⟩ = some (.int .u64 t) ∧ wx.cell? ⟨w.heap.size, 1, none⟩ = some (.int .u8 l)) (first | exact HS.out _ ((Below.refl _ _).drew) | exact HS.out _ HB4 | exact HS.out _ HB1 | exact HS.out _ (Below.drew (bel_alloc0 (Below.refl _ _))) | exact HS.out _ (bel_alloc (Below.size HB1) HB1) | (refine HS.out _ ?_; (repeat (first | (with_reducible exact Below.refl _ _) | (with_reducible assumption) | (with_reducible refine Below.drew ?_) | (with_reducible refine below_drewN ?_ _) | ((with_reducible refine bel_set ?_ ?_); (focus (first | (simp; done) | (simp; omega) | omega | (simp at *; omega)))) | (with_reducible refine bel_alloc0 ?_) | (with_reducible refine bel_step0 (by assumption) ?_) | ((with_reducible refine bel_alloc ?_ ?_); (focus (first | (simp; done) | (simp; omega) | omega | (simp at *; omega)))) | ((with_reducible refine bel_step (by assumption) ?_ ?_); (focus (first | (simp; done) | (simp; omega) | omega | (simp at *; omega))))))))
      (first | (go_at_call 80; (with_reducible refine (D1.out _).mono ?_); rintro e w1 ⟨v, rfl, ho1, hb1⟩; obtain ⟨A1, c1, rfl⟩ := own_shape ho1; have HB1 : Below wa.heap.size wa w1 := bel_step hb1 (by simp) (by (repeat (first | (with_reducible exact Below.refl _ _) | (with_reducible assumption) | (with_reducible refine Below.drew ?_) | (with_reducible refine below_drewN ?_ _) | ((with_reducible refine bel_set ?_ ?_); (focus (first | (simp; done) | (simp; omega) | omega | (simp at *; omega)))) | (with_reducible refine bel_alloc0 ?_) | (with_reducible refine bel_step0 (by assumption) ?_) | ((with_reducible refine bel_alloc ?_ ?_); (focus (first | (simp; done) | (simp; omega) | omega | (simp at *; omega)))) | ((with_reducible refine bel_step (by assumption) ?_ ?_); (focus (first | (simp; done) | (simp; omega) | omega | (simp at *; omega))))))); have hz1 := HB1.size; have HO1 : w1.ownsRow wa.heap.size 5 1 (.slice A1 N1.length c1) N1.length (numL .u8 N1) := own_mono ho1 (by simp)) | (refine step_app rfl (.tmp 9) (.tmp 12) 22 rfl wa.heap.size 5 j0 _ 1 1 Tryz.underlying22 hj0 hy0 hy1 hy2 rfl (by decide) (.slice A1 N1.length c1) N1.length (numL .u8 N1) (by rfl) (by first | exact HO1 | exact HO1.alloc _) _ 1 1 [.int .u8 l] (by rfl) (by first | exact Src.of_blk (g := w1.heap.size) (Blk.made _ _ _) 1 1 1 rfl | exact Src.of_blk (g := wa.heap.size) ((Blk.drew (Blk.made _ _ _)).step hb1) 1 1 1 rfl | exact Src.of_blk (g := wa.heap.size) (Blk.step (Blk.made _ _ _) hb1) 1 1 1 rfl) (by intro u hu; simp at hu; rcases hu with rfl; rfl) (by unfold maxLen; omega) (by omega) (by first | omega | (simp; done) | (simp; omega)) ?_; intro A4 c4 w4 hown4 hg4; have HB4 : Below wa.heap.size wa w4 := Below.grown (by first | exact HB1 | exact HB1.alloc hz1 _) hg4 (by first | omega | (simp; done) | (simp; omega)) (fun y hy => (World.ownsRow.lt HO1 y hy).1)))
    all_goals
      have P4 : Hid (Part.Ok (⟨A4, c4, H⟩ : Part) w4) := by
        rw [HH.out]
        have e1 : (N1 ++ [l]).length = N1.length + 1 := by rw [List.length_append]; rfl
        refine part_own (base := wa.heap.size) (ls := N1 ++ [l]) (n := (N1 ++ [l]).length) ?_ rfl
        rw [e1, numL_end]
        exact hown4
      have HB4' : Hid (Below w.heap.size w w4) := HBW.out.trans (HB4.mono (by omega))
      have HS2 : Hid (∀ wx, Below w4.heap.size w4 wx → wx.cell? ⟨w.heap.size, 2, none⟩ = some (.string src) ∧ wx.cell? ⟨w.heap.size, 3, none⟩ = some (.string txt)) := fun wx h => ⟨((HBA.out.step HB4).step h).cell 2, ((HBA.out.step HB4).step h).cell 3⟩
      have hs3 : ∀ a1 a2 a3 a4 a5 a6, sumL [(⟨a1, a2, H⟩ : Part), ⟨a3, a4, T1⟩, ⟨a5, a6, T2⟩] ≤ 1000000 := fun _ _ _ _ _ _ => by simp [sumL]; omega
      have HHL : Hid (H.length = N1.length + 1) := by show _ = _; rw [HH.out, List.length_append]; rfl
      have hH1 : H.length = N1.length + 1 := HHL.out
      rw [← hH1]
      clear HS HBA HB4 hown4 hg4 HO1 hb1 ho1 HB1 hz1 HBW D1 hH1 HHL HH
      go_upto_region 4 with fail
      go_region_held3 (fun wx => wx.cell? ⟨w.heap.size, 2, none⟩ = some (.string src) ∧ wx.cell? ⟨w.heap.size, 3, none⟩ = some (.string txt)) (first | exact HS2.out _ ((Below.refl _ _).drew) | exact HS2.out _ BA | exact HS2.out _ BB | (refine HS2.out _ ?_; (repeat (first | (with_reducible exact Below.refl _ _) | (with_reducible assumption) | (with_reducible refine Below.drew ?_) | (with_reducible refine below_drewN ?_ _) | ((with_reducible refine bel_set ?_ ?_); (focus (first | (simp; done) | (simp; omega) | omega | (simp at *; omega)))) | (with_reducible refine bel_alloc0 ?_) | (with_reducible refine bel_step0 (by assumption) ?_) | ((with_reducible refine bel_alloc ?_ ?_); (focus (first | (simp; done) | (simp; omega) | omega | (simp at *; omega)))) | ((with_reducible refine bel_step (by assumption) ?_ ?_); (focus (first | (simp; done) | (simp; omega) | omega | (simp at *; omega)))))))) (first | (go_at_call 203; first | ((with_reducible refine (D2.out _).mono ?_); rintro e wA ⟨vA, rfl, hoA, hbA⟩; obtain ⟨AA, cA, rfl⟩ := own_shape hoA; have BA : Below w4.heap.size w4 wA := bel_step hbA (by first | omega | (simp; done) | (simp; omega)) (by (repeat (first | (with_reducible exact Below.refl _ _) | (with_reducible assumption) | (with_reducible refine Below.drew ?_) | (with_reducible refine below_drewN ?_ _) | ((with_reducible refine bel_set ?_ ?_); (focus (first | (simp; done) | (simp; omega) | omega | (simp at *; omega)))) | (with_reducible refine bel_alloc0 ?_) | (with_reducible refine bel_step0 (by assumption) ?_) | ((with_reducible refine bel_alloc ?_ ?_); (focus (first | (simp; done) | (simp; omega) | omega | (simp at *; omega)))) | ((with_reducible refine bel_step (by assumption) ?_ ?_); (focus (first | (simp; done) | (simp; omega) | omega | (simp at *; omega))))))); have zA := BA.size; have PA : Part.Ok (⟨AA, cA, T1⟩ : Part) wA := part_own hoA rfl; have kA := hbA) | ((with_reducible refine (D3.out _).mono ?_); rintro e wB ⟨vB, rfl, hoB, hbB⟩; obtain ⟨AB, cB, rfl⟩ := own_shape hoB; have BB : Below w4.heap.size w4 wB := bel_step hbB (by first | omega | (simp; done) | (simp; omega)) (by (repeat (first | (with_reducible exact Below.refl _ _) | (with_reducible assumption) | (with_reducible refine Below.drew ?_) | (with_reducible refine below_drewN ?_ _) | ((with_reducible refine bel_set ?_ ?_); (focus (first | (simp; done) | (simp; omega) | omega | (simp at *; omega)))) | (with_reducible refine bel_alloc0 ?_) | (with_reducible refine bel_step0 (by assumption) ?_) | ((with_reducible refine bel_alloc ?_ ?_); (focus (first | (simp; done) | (simp; omega) | omega | (simp at *; omega)))) | ((with_reducible refine bel_step (by assumption) ?_ ?_); (focus (first | (simp; done) | (simp; omega) | omega | (simp at *; omega))))))); have zB := BB.size; have PB : Part.Ok (⟨AB, cB, T2⟩ : Part) wB := part_own hoB rfl; have kB := hbB)) | (go_at_call 79; (refine (all_any _ _ 3 [(⟨A4, c4, H⟩ : Part), (⟨AA, cA, T1⟩ : Part), (⟨AB, cB, T2⟩ : Part)] rfl (by omega) (hs3 _ _ _ _ _ _) (fun p hp => by { rcases List.mem_cons.1 hp with rfl | hp; exact P4.out.step (by (repeat (first | (with_reducible exact Below.refl _ _) | (with_reducible assumption) | (with_reducible refine Below.drew ?_) | (with_reducible refine below_drewN ?_ _) | ((with_reducible refine bel_set ?_ ?_); (focus (first | (simp; done) | (simp; omega) | omega | (simp at *; omega)))) | (with_reducible refine bel_alloc0 ?_) | (with_reducible refine bel_step0 (by assumption) ?_) | ((with_reducible refine bel_alloc ?_ ?_); (focus (first | (simp; done) | (simp; omega) | omega | (simp at *; omega)))) | ((with_reducible refine bel_step (by assumption) ?_ ?_); (focus (first | (simp; done) | (simp; omega) | omega | (simp at *; omega))))))); rcases List.mem_cons.1 hp with rfl | hp; exact PA.step (by (repeat (first | (with_reducible exact Below.refl _ _) | (with_reducible assumption) | (with_reducible refine Below.drew ?_) | (with_reducible refine below_drewN ?_ _) | ((with_reducible refine bel_set ?_ ?_); (focus (first | (simp; done) | (simp; omega) | omega | (simp at *; omega)))) | (with_reducible refine bel_alloc0 ?_) | (with_reducible refine bel_step0 (by assumption) ?_) | ((with_reducible refine bel_alloc ?_ ?_); (focus (first | (simp; done) | (simp; omega) | omega | (simp at *; omega)))) | ((with_reducible refine bel_step (by assumption) ?_ ?_); (focus (first | (simp; done) | (simp; omega) | omega | (simp at *; omega))))))); rcases List.mem_cons.1 hp with rfl | hp; exact PB.step (by (repeat (first | (with_reducible exact Below.refl _ _) | (with_reducible assumption) | (with_reducible refine Below.drew ?_) | (with_reducible refine below_drewN ?_ _) | ((with_reducible refine bel_set ?_ ?_); (focus (first | (simp; done) | (simp; omega) | omega | (simp at *; omega)))) | (with_reducible refine bel_alloc0 ?_) | (with_reducible refine bel_step0 (by assumption) ?_) | ((with_reducible refine bel_alloc ?_ ?_); (focus (first | (simp; done) | (simp; omega) | omega | (simp at *; omega)))) | ((with_reducible refine bel_step (by assumption) ?_ ?_); (focus (first | (simp; done) | (simp; omega) | omega | (simp at *; omega))))))); cases hp }) (by first | exact Blk.made _ _ _ | exact Blk.drew (Blk.made _ _ _))).mono ?_); rintro e w7 ⟨v7, rfl, ho7, hb7⟩; obtain ⟨A7, c7, rfl⟩ := own_shape ho7; have B7 : Below w4.heap.size w4 w7 := bel_step hb7 (by first | omega | (simp; done) | (simp; omega)) (by (repeat (first | (with_reducible exact Below.refl _ _) | (with_reducible assumption) | (with_reducible refine Below.drew ?_) | (with_reducible refine below_drewN ?_ _) | ((with_reducible refine bel_set ?_ ?_); (focus (first | (simp; done) | (simp; omega) | omega | (simp at *; omega)))) | (with_reducible refine bel_alloc0 ?_) | (with_reducible refine bel_step0 (by assumption) ?_) | ((with_reducible refine bel_alloc ?_ ?_); (focus (first | (simp; done) | (simp; omega) | omega | (simp at *; omega)))) | ((with_reducible refine bel_step (by assumption) ?_ ?_); (focus (first | (simp; done) | (simp; omega) | omega | (simp at *; omega)))))))))
      have HB7 : Hid (Below w.heap.size w w7) := HB4'.out.trans (B7.mono HB4'.out.size)
      have HO7 := Lib.hid (own_mono ho7 (show w.heap.size ≤ _ by have := HB4'.out.size; have := zA; have := zB; first | omega | (simp; omega)))
      go_wp2_with fail
      go_ret
      refine ⟨_, rfl, ?_, HB7.out⟩
      have h := HO7.out
      simp only [List.flatMap_cons, List.flatMap_nil, List.append_nil] at h
      rw [List.length_append, List.length_append] at h ⊢
      exact h
  | false =>
    have hhf : headB false ⟨(t : Nat), (l : Nat), src, txt⟩ = [] := rfl
    rw [hhf, List.nil_append]
    clear hhl hhf D1
    generalize textB src = T1 at *
    generalize textB txt = T2 at *
    go_enter Tryz.func144, Tryz.ntmps144
    go_upto_region 4 with fail
    have hba : Blk (w.alloc (.cells #[.int .u64 t, .int .u8 l, .string src, .string txt] 77)) w.heap.size 77 #[.int .u64 t, .int .u8 l, .string src, .string txt] := Blk.made _ _ _
    have hbw : Below w.heap.size w (w.alloc (.cells #[.int .u64 t, .int .u8 l, .string src, .string txt] 77)) := bel_alloc0 (Below.refl _ _)
    have hzw : (w.alloc (.cells #[.int .u64 t, .int .u8 l, .string src, .string txt] 77)).heap.size = w.heap.size + 1 := by simp
    generalize w.alloc (.cells #[.int .u64 t, .int .u8 l, .string src, .string txt] 77) = wa at *
    have hzw2 : w.heap.size < wa.heap.size := by omega
    have HBW := Lib.hid hbw
    have HS2 : Hid (∀ wx, Below wa.heap.size wa wx → wx.cell? ⟨w.heap.size, 2, none⟩ = some (.string src) ∧ wx.cell? ⟨w.heap.size, 3, none⟩ = some (.string txt)) := fun wx h => ⟨(hba.step h).cell 2, (hba.step h).cell 3⟩
    have P4 : Hid (Part.Ok (⟨none, 0, ([] : List Nat)⟩ : Part) wa) := ⟨Row.zero, fun _ => ⟨rfl, rfl⟩⟩
    have hs3 : ∀ (a1 : Option Addr) (a2 : Nat) a3 a4 a5 a6, sumL [(⟨a1, a2, ([] : List Nat)⟩ : Part), ⟨a3, a4, T1⟩, ⟨a5, a6, T2⟩] ≤ 1000000 := fun _ _ _ _ _ _ => by simp [sumL]; omega
    clear hba hbw hzw
    go_region_held3 (fun wx => wx.cell? ⟨w.heap.size, 2, none⟩ = some (.string src) ∧ wx.cell? ⟨w.heap.size, 3, none⟩ = some (.string txt)) (first | exact HS2.out _ ((Below.refl _ _).drew) | exact HS2.out _ BA | exact HS2.out _ BB | (refine HS2.out _ ?_; (repeat (first | (with_reducible exact Below.refl _ _) | (with_reducible assumption) | (with_reducible refine Below.drew ?_) | (with_reducible refine below_drewN ?_ _) | ((with_reducible refine bel_set ?_ ?_); (focus (first | (simp; done) | (simp; omega) | omega | (simp at *; omega)))) | (with_reducible refine bel_alloc0 ?_) | (with_reducible refine bel_step0 (by assumption) ?_) | ((with_reducible refine bel_alloc ?_ ?_); (focus (first | (simp; done) | (simp; omega) | omega | (simp at *; omega)))) | ((with_reducible refine bel_step (by assumption) ?_ ?_); (focus (first | (simp; done) | (simp; omega) | omega | (simp at *; omega)))))))) (first | (go_at_call 203; first | ((with_reducible refine (D2.out _).mono ?_); rintro e wA ⟨vA, rfl, hoA, hbA⟩; obtain ⟨AA, cA, rfl⟩ := own_shape hoA; have BA : Below wa.heap.size wa wA := bel_step hbA (by first | omega | (simp; done) | (simp; omega)) (by (repeat (first | (with_reducible exact Below.refl _ _) | (with_reducible assumption) | (with_reducible refine Below.drew ?_) | (with_reducible refine below_drewN ?_ _) | ((with_reducible refine bel_set ?_ ?_); (focus (first | (simp; done) | (simp; omega) | omega | (simp at *; omega)))) | (with_reducible refine bel_alloc0 ?_) | (with_reducible refine bel_step0 (by assumption) ?_) | ((with_reducible refine bel_alloc ?_ ?_); (focus (first | (simp; done) | (simp; omega) | omega | (simp at *; omega)))) | ((with_reducible refine bel_step (by assumption) ?_ ?_); (focus (first | (simp; done) | (simp; omega) | omega | (simp at *; omega))))))); have zA := BA.size; have PA : Part.Ok (⟨AA, cA, T1⟩ : Part) wA := part_own hoA rfl; have kA := hbA) | ((with_reducible refine (D3.out _).mono ?_); rintro e wB ⟨vB, rfl, hoB, hbB⟩; obtain ⟨AB, cB, rfl⟩ := own_shape hoB; have BB : Below wa.heap.size wa wB := bel_step hbB (by first | omega | (simp; done) | (simp; omega)) (by (repeat (first | (with_reducible exact Below.refl _ _) | (with_reducible assumption) | (with_reducible refine Below.drew ?_) | (with_reducible refine below_drewN ?_ _) | ((with_reducible refine bel_set ?_ ?_); (focus (first | (simp; done) | (simp; omega) | omega | (simp at *; omega)))) | (with_reducible refine bel_alloc0 ?_) | (with_reducible refine bel_step0 (by assumption) ?_) | ((with_reducible refine bel_alloc ?_ ?_); (focus (first | (simp; done) | (simp; omega) | omega | (simp at *; omega)))) | ((with_reducible refine bel_step (by assumption) ?_ ?_); (focus (first | (simp; done) | (simp; omega) | omega | (simp at *; omega))))))); have zB := BB.size; have PB : Part.Ok (⟨AB, cB, T2⟩ : Part) wB := part_own hoB rfl; have kB := hbB)) | (go_at_call 79; (refine (all_any _ _ 3 [(⟨none, 0, ([] : List Nat)⟩ : Part), (⟨AA, cA, T1⟩ : Part), (⟨AB, cB, T2⟩ : Part)] rfl (by omega) (hs3 _ _ _ _ _ _) (fun p hp => by { rcases List.mem_cons.1 hp with rfl | hp; exact P4.out.step (by (repeat (first | (with_reducible exact Below.refl _ _) | (with_reducible assumption) | (with_reducible refine Below.drew ?_) | (with_reducible refine below_drewN ?_ _) | ((with_reducible refine bel_set ?_ ?_); (focus (first | (simp; done) | (simp; omega) | omega | (simp at *; omega)))) | (with_reducible refine bel_alloc0 ?_) | (with_reducible refine bel_step0 (by assumption) ?_) | ((with_reducible refine bel_alloc ?_ ?_); (focus (first | (simp; done) | (simp; omega) | omega | (simp at *; omega)))) | ((with_reducible refine bel_step (by assumption) ?_ ?_); (focus (first | (simp; done) | (simp; omega) | omega | (simp at *; omega))))))); rcases List.mem_cons.1 hp with rfl | hp; exact PA.step (by (repeat (first | (with_reducible exact Below.refl _ _) | (with_reducible assumption) | (with_reducible refine Below.drew ?_) | (with_reducible refine below_drewN ?_ _) | ((with_reducible refine bel_set ?_ ?_); (focus (first | (simp; done) | (simp; omega) | omega | (simp at *; omega)))) | (with_reducible refine bel_alloc0 ?_) | (with_reducible refine bel_step0 (by assumption) ?_) | ((with_reducible refine bel_alloc ?_ ?_); (focus (first | (simp; done) | (simp; omega) | omega | (simp at *; omega)))) | ((with_reducible refine bel_step (by assumption) ?_ ?_); (focus (first | (simp; done) | (simp; omega) | omega | (simp at *; omega))))))); rcases List.mem_cons.1 hp with rfl | hp; exact PB.step (by (repeat (first | (with_reducible exact Below.refl _ _) | (with_reducible assumption) | (with_reducible refine Below.drew ?_) | (with_reducible refine below_drewN ?_ _) | ((with_reducible refine bel_set ?_ ?_); (focus (first | (simp; done) | (simp; omega) | omega | (simp at *; omega)))) | (with_reducible refine bel_alloc0 ?_) | (with_reducible refine bel_step0 (by assumption) ?_) | ((with_reducible refine bel_alloc ?_ ?_); (focus (first | (simp; done) | (simp; omega) | omega | (simp at *; omega)))) | ((with_reducible refine bel_step (by assumption) ?_ ?_); (focus (first | (simp; done) | (simp; omega) | omega | (simp at *; omega))))))); cases hp }) (by first | exact Blk.made _ _ _ | exact Blk.drew (Blk.made _ _ _))).mono ?_); rintro e w7 ⟨v7, rfl, ho7, hb7⟩; obtain ⟨A7, c7, rfl⟩ := own_shape ho7; have B7 : Below wa.heap.size wa w7 := bel_step hb7 (by first | omega | (simp; done) | (simp; omega)) (by (repeat (first | (with_reducible exact Below.refl _ _) | (with_reducible assumption) | (with_reducible refine Below.drew ?_) | (with_reducible refine below_drewN ?_ _) | ((with_reducible refine bel_set ?_ ?_); (focus (first | (simp; done) | (simp; omega) | omega | (simp at *; omega)))) | (with_reducible refine bel_alloc0 ?_) | (with_reducible refine bel_step0 (by assumption) ?_) | ((with_reducible refine bel_alloc ?_ ?_); (focus (first | (simp; done) | (simp; omega) | omega | (simp at *; omega)))) | ((with_reducible refine bel_step (by assumption) ?_ ?_); (focus (first | (simp; done) | (simp; omega) | omega | (simp at *; omega)))))))))
    have HB7 : Hid (Below w.heap.size w w7) := HBW.out.trans (B7.mono HBW.out.size)
    have HO7 := Lib.hid (own_mono ho7 (show w.heap.size ≤ _ by have := HBW.out.size; have := zA; have := zB; first | omega | (simp; omega)))
    go_wp2_with fail
    go_ret
    refine ⟨_, rfl, ?_, HB7.out⟩
    have h := HO7.out
    simp only [List.flatMap_cons, List.flatMap_nil, List.append_nil, List.nil_append] at h
    rw [List.length_append] at h ⊢
    exact h
theorem src_row7 {w : World} {base n c : Nat} {A : Option Addr} {xs : List Value} (h : w.ownsRow base 5 1 (.slice A n c) n xs) : Src w A n c 1 xs := by
  obtain ⟨h0, h1⟩ := h
  refine ⟨h0, ?_⟩
  rcases h1 with ⟨hv, _⟩ | ⟨g, cap, cur, hv, _, hh, _, _, _, htake⟩
  · injection hv with e1 e2 e3
    exact .inl ⟨e1, e2, e3⟩
  · injection hv with e1 e2 e3
    refine .inr ⟨⟨g, 0, none⟩, e1, fun j u hu => ?_⟩
    rw [add_none, Nat.zero_add, Blk.cell hh]
    rw [← htake, List.getElem?_take] at hu
    split at hu
    · simpa using hu
    · cases hu
end Go.Proofs.YtmgjgkdbagbleaaGreatDoor.Recs
namespace Go.Proofs.YtmgjgkdbagbleaaGreatDoor.Recs
open Go.RowKit Go.Proofs.YtmgjgkdbagbleaaGreatDoor.Mem Go.Proofs.YtmgjgkdbagbleaaGreatDoor.Own Go.Proofs.YtmgjgkdbagbleaaGreatDoor.Canon Go.Proofs.YtmgjgkdbagbleaaGreatDoor.NumPut
open Go.Proofs.YtmgjgkdbagbleaaGreatDoor.Block (part_own)
def bytesB (wh : Bool) (l : List Rec) : List Nat := l.flatMap (oneB wh)
theorem bytesB_take {wh : Bool} {l : List Rec} {k : Nat} {r : Rec} (hr : l[k]? = some r) : bytesB wh (l.take (k + 1)) = bytesB wh (l.take k) ++ oneB wh r := by
  unfold bytesB
  rw [List.take_add_one, hr, List.flatMap_append]
  simp
theorem bytesB_u8 (wh : Bool) {l : List Rec} (h : ∀ r ∈ l, RecOk r) : ∀ x ∈ bytesB wh l, x ≤ 255 := fun x hx => by
  obtain ⟨r, hr, hx⟩ := List.mem_flatMap.1 hx
  exact oneB_u8 wh (h r hr) x hx
theorem bytesB_len (wh : Bool) : ∀ {l : List Rec}, (∀ r ∈ l, RecOk r) → (∀ r ∈ l, longB r = false) → ((bytesB wh l).length : Int) ≤ weight l + l.length
  | [], _, _ => by simp [bytesB, weight_nil]
  | r :: l, h, hl => by
    have h1 := (oneB_len wh (h r (by simp)) (hl r (by simp))).1
    have ih := bytesB_len wh (l := l) (fun x hx => h x (by simp [hx])) (fun x hx => hl x (by simp [hx]))
    have e : weight (r :: l) = weigh r + weight l := by
      simp only [weight, List.map_cons, List.foldl_cons]
      rw [foldl_add]
      omega
    have e2 : (bytesB wh (r :: l)).length = (oneB wh r).length + (bytesB wh l).length := by unfold bytesB; rw [List.flatMap_cons, List.length_append]
    rw [e, e2]
    unfold weigh
    simp only [List.length_cons]
    push_cast
    omega
theorem bytesB_mono (wh : Bool) (l : List Rec) (k : Nat) : (bytesB wh (l.take k)).length ≤ (bytesB wh l).length := by
  conv => rhs; rw [← List.take_append_drop k l]
  unfold bytesB
  rw [List.flatMap_append, List.length_append]
  omega
def BytesPost (wh : Bool) (l : List Rec) (w : World) (e : Ending) (w' : World) : Prop :=
  ∃ v, e = .returned v ∧ w'.ownsRow w.heap.size 5 1 v (bytesB wh l).length (numL .u8 (bytesB wh l)) ∧ Below w.heap.size w w'
set_option maxHeartbeats 2000000 in
set_option maxRecDepth 100000 in
theorem bytes_any (w : World) (wh : Bool) (A : Option Addr) (n c : Nat) (l : List Rec) (hn : l.length = n) (hN : n ≤ 9223372036854775807) (hok : ∀ r ∈ l, RecOk r) (hl : ∀ r ∈ l, longB r = false) (hb : (bytesB wh l).length ≤ 1000000000) (ha : Row w w.heap.size A n 4 (recF l)) :
    Calls Tryz.prog 83 #[.bool wh, .slice A n c] w (BytesPost wh l w) := by
  obtain ⟨j0, hj0, hy0, hy1, hy2⟩ := info_parts info_u8
  have HN := Lib.hid hn
  have HM := Lib.hid (fun k => Nat.le_trans (bytesB_mono wh l k) hb)
  have HD := Lib.hid (fun wx r (h : r ∈ l) => one_any wx wh r (hok r h) (hl r h))
  unfold OnePost at HD
  unfold BytesPost
  clear hn hok hl hb
  go_enter Tryz.func83, Tryz.ntmps83
  go_wp2_with fail
  go_loopw [5, 10] (fun u i wr => ∃ (k q : Nat), k ≤ n ∧ q ≤ 1000000000 ∧ i = .int .i64 k ∧ Hid ((bytesB wh (l.take k)).length = q) ∧ Hid (wr.ownsRow w.heap.size 5 1 u q (numL .u8 (bytesB wh (l.take k)))) ∧ Hid (Below w.heap.size w wr)) (fun _ i _ => n - (intOf i).toNat)
  case atStart => exact ⟨0, 0, by omega, by omega, rfl, rfl, World.ownsRow_nil _ _ _ _, Below.refl _ _⟩
  case round =>
    obtain ⟨k, q, hk, hq, rfl, HQ, HO, HB⟩ := hrel
    have hz := HB.out.size
    by_cases hlt : k < n
    · obtain ⟨b, off, r, rfl, hbb, hg, c0, c1, c2, c3⟩ := Row.rec (ha.below HB.out) HN.out hlt
      have D := Lib.hid (fun wx => HD.out wx r (List.mem_of_getElem? hg))
      have HT := Lib.hid (bytesB_take (wh := wh) hg)
      have hq2 : q + (oneB wh r).length ≤ 1000000000 := by
        have h := HM.out (k + 1)
        rw [HT.out, List.length_append, HQ.out] at h
        exact h
      have hol : (oneB wh r).length ≤ 1000000000 := by omega
      unfold Rec.val at D
      have x0 : (0 : Int) ≤ (k : Int) := by omega
      have x1 : (k : Int) < (n : Int) := by omega
      generalize oneB wh r = O at *
      obtain ⟨m, hm⟩ : ∃ m, m = O.length := ⟨_, rfl⟩
      rw [← hm] at D hq2 hol
      have HML := Lib.hid hm
      clear hg hm
      go_wp2_with fail
      refine (D.out _).mono ?_
      rintro e w1 ⟨v1, rfl, ho1, hb1⟩
      obtain ⟨A1, d1, rfl⟩ := own_shape ho1
      have HS1 : Hid (Src w1 A1 m d1 1 (numL .u8 O)) := src_row7 ho1
      have HB1 : Hid (Below w.heap.size w w1) := bel_step0 hb1 (bel_alloc0 HB.out)
      have HO1 : Hid (w1.ownsRow w.heap.size 5 1 u5 q (numL .u8 (bytesB wh (l.take k)))) := own_kept (HO.out.alloc (.cells #[.int .u64 r.time, .int .u8 r.level, .string r.source, .string r.text] 77)) (fun y hy => hb1.block y (by have := (World.ownsRow.lt HO.out y hy).2; simp; omega))
      have hz1 := HB1.out.size
      clear ho1 hb1 D c0 c1 c2 c3 HO HB
      go_wp2_with (at_builtin; refine wpList_app rfl (.tmp 14) (.tmp 17) 22 rfl w.heap.size 5 j0 _ 1 1 Tryz.underlying22 hj0 hy0 hy1 hy2 rfl (by decide) _ _ _ (by rfl) HO1.out _ _ _ _ (by rfl) HS1.out (numL_one _ _) (by unfold maxLen; omega) (by omega) hz1 ?_; intro v4 w4 hown4 hg4 hat4)
      have HB4 : Hid (Below w.heap.size w w4) := HB1.out.grown hg4 hz1 (fun y hy => (World.ownsRow.lt HO1.out y hy).1)
      have HO4 : Hid (w4.ownsRow w.heap.size 5 1 v4 (q + m) (numL .u8 (bytesB wh (l.take (k + 1))))) := by
        rw [HT.out, show numL .u8 (bytesB wh (l.take k) ++ O) = numL .u8 (bytesB wh (l.take k)) ++ numL .u8 O by simp [numL]]
        exact hown4
      clear hown4 hg4 hat4
      go_roundw
      case measure => go_light; simp [intOf]; omega
      case rel => go_light; exact ⟨k + 1, q + m, by omega, hq2, by first | rfl | go_num, by show _ = _; rw [HT.out, List.length_append, HQ.out, HML.out], HO4.out, HB4.out⟩
    · obtain rfl : k = n := by omega
      have h1 : l.take k = l := List.take_of_length_le (by rw [HN.out]; exact Nat.le_refl _)
      rw [h1] at HQ HO
      clear h1
      go_wp2_with fail
      go_ret
      exact ⟨_, rfl, by rw [HQ.out]; exact HO.out, HB.out⟩
end Go.Proofs.YtmgjgkdbagbleaaGreatDoor.Recs
namespace Go.Proofs.YtmgjgkdbagbleaaGreatDoor.Recs
open Go.RowKit Go.Proofs.YtmgjgkdbagbleaaGreatDoor.Mem Go.Proofs.YtmgjgkdbagbleaaGreatDoor.Own Go.Proofs.YtmgjgkdbagbleaaGreatDoor.Canon Go.Proofs.YtmgjgkdbagbleaaGreatDoor.NumPut
def goG (S : Nat) : Nat → Nat → List Nat → List Nat
  | _, c, [] => [c]
  | h, c, x :: t => if S < h + x then c :: goG S x 1 t else goG S (h + x) (c + 1) t
def groupsP (S : Nat) : List Nat → List Nat
  | [] => []
  | x :: t => goG S x 1 t
def lensB (wh : Bool) (l : List Rec) : List Nat := l.map fun r => (oneB wh r).length
theorem lensB_drop {wh : Bool} {l : List Rec} {k : Nat} {r : Rec} (hr : l[k]? = some r) : (lensB wh l).drop k = (oneB wh r).length :: (lensB wh l).drop (k + 1) := by
  obtain ⟨hk, e⟩ := List.getElem?_eq_some_iff.1 hr
  have hk2 : k < (lensB wh l).length := by unfold lensB; rw [List.length_map]; exact hk
  rw [List.drop_eq_getElem_cons hk2]
  congr 1
  simp [lensB, e]
theorem lensB_end {wh : Bool} {l : List Rec} {n : Nat} (hn : l.length = n) : (lensB wh l).drop n = [] := List.drop_of_length_le (by unfold lensB; rw [List.length_map]; omega)
theorem glast_cell {w : World} {base g cg q z : Nat} {done : List Nat} (h : w.ownsRow base 3 1 (.slice (some ⟨g, 0, none⟩) (q + 1) cg) (q + 1) (numL .i64 (done ++ [z]))) (hq : done.length = q) : w.cell? ⟨g, q, none⟩ = some (.int .i64 (z : Nat)) := by
  rw [(Lz.own_cells h (show q < q + 1 by omega)).1]
  simp only [numL, List.getElem?_map]
  rw [List.getElem?_append_right (by omega), hq]
  simp
theorem glast_put {w : World} {base g cg q z : Nat} {done : List Nat} (h : w.ownsRow base 3 1 (.slice (some ⟨g, 0, none⟩) (q + 1) cg) (q + 1) (numL .i64 (done ++ [z]))) (hq : done.length = q) : (w.setCell ⟨g, q, none⟩ (.int .i64 (z + 1 : Nat))).ownsRow base 3 1 (.slice (some ⟨g, 0, none⟩) (q + 1) cg) (q + 1) (numL .i64 (done ++ [z + 1])) := by
  have h1 := Lz.own_put h (.int .i64 (z + 1 : Nat)) (show q < q + 1 by omega)
  have e : (numL .i64 (done ++ [z])).set q (.int .i64 (z + 1 : Nat)) = numL .i64 (done ++ [z + 1]) := by
    have hl : q = (numL .i64 done).length := by unfold numL; rw [List.length_map, hq]
    have e1 : numL .i64 (done ++ [z]) = numL .i64 done ++ [.int .i64 (z : Nat)] := by simp [numL]
    rw [e1, hl, List.set_append_right _ _ (Nat.le_refl _), Nat.sub_self]
    simp [numL]
  rw [e] at h1
  exact h1
theorem info_gint : (Tryz.prog.info? 3).map (fun i => (i.zero, i.size, i.bytes)) = some (some (.int .i64 0), 1, 8) := by kernel_rfl
def GroupsPost (S : Nat) (wh : Bool) (l : List Rec) (w : World) (e : Ending) (w' : World) : Prop :=
  ∃ v, e = .returned v ∧ w'.ownsRow w.heap.size 3 1 v (groupsP S (lensB wh l)).length (numL .i64 (groupsP S (lensB wh l))) ∧ Below w.heap.size w w'
theorem numL_snoc (k : IntKind) (l : List Nat) (x : Nat) : numL k (l ++ [x]) = numL k l ++ [.int k (x : Nat)] := by simp [numL]
set_option maxHeartbeats 2000000 in
set_option maxRecDepth 100000 in
theorem groups_any (w : World) (S : Nat) (wh : Bool) (A : Option Addr) (n c : Nat) (l : List Rec) (hS : 1 ≤ S) (hS2 : S ≤ 1000000) (hn : l.length = n) (hN : n ≤ 1000000) (hok : ∀ r ∈ l, RecOk r) (hl : ∀ r ∈ l, longB r = false) (ha : Row w w.heap.size A n 4 (recF l)) :
    Calls Tryz.prog 77 #[.int .i64 S, .bool wh, .slice A n c] w (GroupsPost S wh l w) := by
  obtain ⟨j0, hj0, hy0, hy1, hy2⟩ := info_parts info_gint
  have HN := Lib.hid hn
  have HX := Lib.hid (fun r (h : r ∈ l) => (oneB_len wh (hok r h) (hl r h)).1)
  have HX2 := Lib.hid (fun r (h : r ∈ l) => longB_false (hl r h))
  have HD := Lib.hid (fun wx r (h : r ∈ l) => one_any wx wh r (hok r h) (hl r h))
  have HE := Lib.hid (lensB_end (wh := wh) hn)
  unfold OnePost at HD
  unfold GroupsPost
  obtain ⟨R, hR⟩ : ∃ R, R = groupsP S (lensB wh l) := ⟨_, rfl⟩
  have HR := Lib.hid hR
  rw [← hR]
  have hmx : max (1 : Int) (S : Int) = (S : Int) := by omega
  clear hn hok hl hR
  go_enter Tryz.func77, Tryz.ntmps77
  go_wp2_with fail
  go_loopw [7, 8, 14] (fun u hv i wr => ∃ (k q h : Nat) (out : List Nat), k ≤ n ∧ q ≤ k ∧ h ≤ 1010000 ∧ i = .int .i64 k ∧ hv = .int .i64 h ∧ Hid (out.length = q) ∧ Hid ((k = 0 ∧ out = [] ∧ h = 0) ∨ (0 < k ∧ ∃ done z, out = done ++ [z] ∧ z ≤ k ∧ done ++ goG S h z ((lensB wh l).drop k) = R)) ∧ Hid (wr.ownsRow w.heap.size 3 1 u q (numL .i64 out)) ∧ Hid (Below w.heap.size w wr)) (fun _ _ i _ => n - (intOf i).toNat)
  case atStart => exact ⟨0, 0, 0, [], by omega, by omega, by omega, rfl, rfl, rfl, .inl ⟨rfl, rfl, rfl⟩, World.ownsRow_nil _ _ _ _, Below.refl _ _⟩
  case round =>
    obtain ⟨k, q, h, out, hk, hqk, hh, rfl, rfl, HQ, HC, HO, HB⟩ := hrel
    obtain ⟨uA, uc, rfl⟩ := own_shape HO.out
    have hz := HB.out.size
    by_cases hlt : k < n
    · obtain ⟨b, off, r, rfl, hbb, hg, c0, c1, c2, c3⟩ := Row.rec (ha.below HB.out) HN.out hlt
      have D := Lib.hid (fun wx => HD.out wx r (List.mem_of_getElem? hg))
      unfold Rec.val at D
      have hx := HX.out r (List.mem_of_getElem? hg)
      have hx2 := HX2.out r (List.mem_of_getElem? hg)
      have x0 : (0 : Int) ≤ (k : Int) := by omega
      have x1 : (k : Int) < (n : Int) := by omega
      have hx3 : (oneB wh r).length ≤ 8017 := by omega
      have HGD := Lib.hid (lensB_drop (wh := wh) hg)
      generalize oneB wh r = O at *
      obtain ⟨x, hx0⟩ : ∃ x, x = O.length := ⟨_, rfl⟩
      rw [← hx0] at D hx3 HGD
      have s1 : IntKind.i64.wrap ((h : Int) + (x : Int)) = ((h + x : Nat) : Int) := by rw [IntWalk.i64_in _ (by omega)]; omega
      have s2 : IntKind.i64.wrap ((0 : Int) + (x : Int)) = (x : Int) := by rw [IntWalk.i64_in _ (by omega)]; omega
      clear hg hx hx2 hx0
      by_cases hnew : k = 0 ∨ S < h + x
      · -- a new group
        have HNX : Hid (∃ done2, out = done2 ∧ done2 ++ goG S x 1 ((lensB wh l).drop (k + 1)) = R) := by
          rcases HC.out with ⟨h1, h2, h3⟩ | ⟨h1, done, z, h2, h3, h4⟩
          · refine ⟨[], h2, ?_⟩
            have e := HR.out
            have e2 := HGD.out
            rw [h1, List.drop_zero] at e2
            rw [e2, groupsP] at e
            rw [h1]
            exact e.symm
          · refine ⟨out, rfl, ?_⟩
            have hf : S < h + x := by rcases hnew with hnew | hnew; omega; exact hnew
            rw [HGD.out, goG, if_pos hf] at h4
            rw [h2, List.append_assoc]
            exact h4
        have HNX2 : Hid (out ++ goG S x 1 ((lensB wh l).drop (k + 1)) = R) := by
          obtain ⟨d2, h1, h2⟩ := HNX.out
          rw [h1]; exact h2
        obtain ⟨hx', hhx⟩ : ∃ hx', hx' = h + x := ⟨_, rfl⟩
        rw [← hhx] at s1 hnew
        by_cases hq0 : q = 0
        · have gq : ((q : Int) == 0) = true := by simp [hq0]
          clear hnew hhx HNX HC hq0
          go_wp2_with fail
          refine (D.out _).mono ?_
          rintro e w1 ⟨v1, rfl, ho1, hb1⟩
          obtain ⟨A1, d1, rfl⟩ := own_shape ho1
          have HB1 : Hid (Below w.heap.size w w1) := bel_step0 hb1 (bel_alloc0 HB.out)
          have HO1 : Hid (w1.ownsRow w.heap.size 3 1 (.slice uA q uc) q (numL .i64 out)) := own_kept (HO.out.alloc (.cells #[.int .u64 r.time, .int .u8 r.level, .string r.source, .string r.text] 77)) (fun y hy => hb1.block y (by have := (World.ownsRow.lt HO.out y hy).2; simp; omega))
          have hz1 := HB1.out.size
          obtain ⟨z, hz0⟩ : ∃ z : Nat, z = 0 := ⟨_, rfl⟩
          have HZ := Lib.hid hz0
          have hz1b : z ≤ 0 := by omega
          obtain ⟨done2, hd2⟩ : ∃ done2, done2 = out := ⟨_, rfl⟩
          obtain ⟨q2, hq2⟩ : ∃ q2, q2 = q := ⟨_, rfl⟩
          have HQ4 : Hid (done2.length = q2) := by rw [hd2, hq2]; exact HQ.out
          have HD2 := Lib.hid hd2
          have HQ2 := Lib.hid hq2
          have hq2b : q2 ≤ k := by omega
          clear ho1 hb1 D c0 c1 c2 c3 HO HB hz hz0 hd2 hq2
          go_wp2_with (at_builtin; refine wpList_app rfl (.tmp 33) (.tmp 34) 50 rfl w.heap.size 3 j0 _ 1 8 Tryz.underlying50 hj0 hy0 hy1 hy2 rfl (by decide) _ _ _ (by rfl) (HO1.out.alloc _) _ 1 1 [.int .i64 0] (by rfl) (Src.of_blk (g := w1.heap.size) (Blk.made _ _ _) 1 1 1 rfl) (by intro u hu; simp at hu; rcases hu with rfl; rfl) (by unfold maxLen; omega) (by omega) (by simp; omega) ?_; intro v4 w4 hown4 hg4 hat4; have HB4 : Hid (Below w.heap.size w w4) := (bel_alloc0 HB1.out).grown hg4 (by simp; omega) (fun y hy => (World.ownsRow.lt HO1.out y hy).1); have HO4 : Hid (w4.ownsRow w.heap.size 3 1 v4 (q2 + 1) (numL .i64 (done2 ++ [z]))) := (by rw [HD2.out, HQ2.out, numL_snoc, HZ.out]; exact hown4); have hqe := HQ2.out; subst hqe; clear hown4 hg4 hat4 HO1 HB1 hz1; have HZ4 := HB4.out.size; obtain ⟨g, cg, rfl, hg0, _⟩ := HO4.out.form (by omega); have hcell : w4.cell? ⟨g, q2, none⟩ = some (.int .i64 (z : Nat)) := glast_cell HO4.out HQ4.out; have hfz := (Lz.own_cells HO4.out (show q2 < q2 + 1 by omega)).2.1; have HO5 : Hid ((w4.setCell ⟨g, q2, none⟩ (.int .i64 (z + 1 : Nat))).ownsRow w.heap.size 3 1 (.slice (some ⟨g, 0, none⟩) (q2 + 1) cg) (q2 + 1) (numL .i64 (done2 ++ [z + 1]))) := glast_put HO4.out HQ4.out; have HB5 : Hid (Below w.heap.size w (w4.setCell ⟨g, q2, none⟩ (.int .i64 (z + 1 : Nat)))) := bel_set hg0 HB4.out; have u1 : IntKind.i64.wrap (((q2 + 1 : Nat) : Int) - 1) = (q2 : Int) := (by rw [IntWalk.i64_in _ (by omega)]; omega); have u1' : IntKind.i64.wrap ((q2 : Int) + 1 - 1) = (q2 : Int) := (by rw [IntWalk.i64_in _ (by omega)]; omega); have u2 : IntKind.i64.wrap ((z : Int) + 1) = ((z + 1 : Nat) : Int) := (by rw [IntWalk.i64_in _ (by omega)]; omega); have y0 : (0 : Int) ≤ (q2 : Int) := (by omega); have y1 : (q2 : Int) < ((q2 + 1 : Nat) : Int) := (by omega))
          go_roundw
          case measure => go_light; simp [intOf]; omega
          case rel => go_light; exact ⟨k + 1, q2 + 1, x, done2 ++ [z + 1], by omega, by omega, by omega, by first | rfl | go_num, by first | rfl | go_num, by show _ = _; rw [List.length_append, HQ4.out]; rfl, .inr ⟨by omega, done2, z + 1, rfl, by omega, by have e := HNX2.out; rw [← HD2.out] at e; rw [HZ.out]; exact e⟩, HO5.out, HB5.out⟩
        · have gq : ((q : Int) == 0) = false := by rw [beq_eq_false_iff_ne]; omega
          have hkp : ¬ k = 0 := by omega
          have hf : S < hx' := by rcases hnew with hnew | hnew; exact absurd hnew hkp; exact hnew
          have gs : decide ((S : Int) < (hx' : Int)) = true := by simp; omega
          have gs' : decide (S < hx') = true := by simp; omega
          clear hnew hhx HNX HC hf hkp hq0
          go_wp2_with fail
          refine (D.out _).mono ?_
          rintro e w1 ⟨v1, rfl, ho1, hb1⟩
          obtain ⟨A1, d1, rfl⟩ := own_shape ho1
          have HB1 : Hid (Below w.heap.size w w1) := bel_step0 hb1 (bel_alloc0 HB.out)
          have HO1 : Hid (w1.ownsRow w.heap.size 3 1 (.slice uA q uc) q (numL .i64 out)) := own_kept (HO.out.alloc (.cells #[.int .u64 r.time, .int .u8 r.level, .string r.source, .string r.text] 77)) (fun y hy => hb1.block y (by have := (World.ownsRow.lt HO.out y hy).2; simp; omega))
          have hz1 := HB1.out.size
          obtain ⟨z, hz0⟩ : ∃ z : Nat, z = 0 := ⟨_, rfl⟩
          have HZ := Lib.hid hz0
          have hz1b : z ≤ 0 := by omega
          obtain ⟨done2, hd2⟩ : ∃ done2, done2 = out := ⟨_, rfl⟩
          obtain ⟨q2, hq2⟩ : ∃ q2, q2 = q := ⟨_, rfl⟩
          have HQ4 : Hid (done2.length = q2) := by rw [hd2, hq2]; exact HQ.out
          have HD2 := Lib.hid hd2
          have HQ2 := Lib.hid hq2
          have hq2b : q2 ≤ k := by omega
          clear ho1 hb1 D c0 c1 c2 c3 HO HB hz hz0 hd2 hq2
          go_wp2_with (at_builtin; refine wpList_app rfl (.tmp 33) (.tmp 34) 50 rfl w.heap.size 3 j0 _ 1 8 Tryz.underlying50 hj0 hy0 hy1 hy2 rfl (by decide) _ _ _ (by rfl) (HO1.out.alloc _) _ 1 1 [.int .i64 0] (by rfl) (Src.of_blk (g := w1.heap.size) (Blk.made _ _ _) 1 1 1 rfl) (by intro u hu; simp at hu; rcases hu with rfl; rfl) (by unfold maxLen; omega) (by omega) (by simp; omega) ?_; intro v4 w4 hown4 hg4 hat4; have HB4 : Hid (Below w.heap.size w w4) := (bel_alloc0 HB1.out).grown hg4 (by simp; omega) (fun y hy => (World.ownsRow.lt HO1.out y hy).1); have HO4 : Hid (w4.ownsRow w.heap.size 3 1 v4 (q2 + 1) (numL .i64 (done2 ++ [z]))) := (by rw [HD2.out, HQ2.out, numL_snoc, HZ.out]; exact hown4); have hqe := HQ2.out; subst hqe; clear hown4 hg4 hat4 HO1 HB1 hz1; have HZ4 := HB4.out.size; obtain ⟨g, cg, rfl, hg0, _⟩ := HO4.out.form (by omega); have hcell : w4.cell? ⟨g, q2, none⟩ = some (.int .i64 (z : Nat)) := glast_cell HO4.out HQ4.out; have hfz := (Lz.own_cells HO4.out (show q2 < q2 + 1 by omega)).2.1; have HO5 : Hid ((w4.setCell ⟨g, q2, none⟩ (.int .i64 (z + 1 : Nat))).ownsRow w.heap.size 3 1 (.slice (some ⟨g, 0, none⟩) (q2 + 1) cg) (q2 + 1) (numL .i64 (done2 ++ [z + 1]))) := glast_put HO4.out HQ4.out; have HB5 : Hid (Below w.heap.size w (w4.setCell ⟨g, q2, none⟩ (.int .i64 (z + 1 : Nat)))) := bel_set hg0 HB4.out; have u1 : IntKind.i64.wrap (((q2 + 1 : Nat) : Int) - 1) = (q2 : Int) := (by rw [IntWalk.i64_in _ (by omega)]; omega); have u1' : IntKind.i64.wrap ((q2 : Int) + 1 - 1) = (q2 : Int) := (by rw [IntWalk.i64_in _ (by omega)]; omega); have u2 : IntKind.i64.wrap ((z : Int) + 1) = ((z + 1 : Nat) : Int) := (by rw [IntWalk.i64_in _ (by omega)]; omega); have y0 : (0 : Int) ≤ (q2 : Int) := (by omega); have y1 : (q2 : Int) < ((q2 + 1 : Nat) : Int) := (by omega))
          go_roundw
          case measure => go_light; simp [intOf]; omega
          case rel => go_light; exact ⟨k + 1, q2 + 1, x, done2 ++ [z + 1], by omega, by omega, by omega, by first | rfl | go_num, by first | rfl | go_num, by show _ = _; rw [List.length_append, HQ4.out]; rfl, .inr ⟨by omega, done2, z + 1, rfl, by omega, by have e := HNX2.out; rw [← HD2.out] at e; rw [HZ.out]; exact e⟩, HO5.out, HB5.out⟩
      · -- one more
        have hk0 : ¬ k = 0 := by omega
        have hf : ¬ S < h + x := by omega
        obtain ⟨done2, z, hout, hzk, hgo⟩ : ∃ done z, out = done ++ [z] ∧ z ≤ k ∧ done ++ goG S h z ((lensB wh l).drop k) = R := by
          rcases HC.out with ⟨h1, _, _⟩ | ⟨_, h2⟩
          · exact absurd h1 hk0
          · exact h2
        rw [HGD.out, goG, if_neg hf] at hgo
        have hql := HQ.out
        rw [hout, List.length_append] at hql
        obtain ⟨q2, hq2⟩ : ∃ q2, q2 = done2.length := ⟨_, rfl⟩
        have hqq : q = q2 + 1 := by rw [hq2, ← hql]; rfl
        subst hqq
        have gq : (((q2 + 1 : Nat) : Int) == 0) = false := by rw [beq_eq_false_iff_ne]; omega
        have gq' : ((q2 : Int) + 1 == 0) = false := by rw [beq_eq_false_iff_ne]; omega
        obtain ⟨hx', hhx⟩ : ∃ hx', hx' = h + x := ⟨_, rfl⟩
        rw [← hhx] at s1 hf hgo
        have gs : decide ((S : Int) < (hx' : Int)) = false := by simp; omega
        have gs' : decide (S < hx') = false := by simp; omega
        have hxl : hx' ≤ 1010000 := by omega
        have HGO := Lib.hid hgo
        have HOUT := Lib.hid hout
        have HQ4 : Hid (done2.length = q2) := hq2.symm
        clear hgo hout hql hq2 hf hnew hk0 hhx HC HGD
        go_wp2_with fail
        refine (D.out _).mono ?_
        rintro e w4 ⟨v1, rfl, ho1, hb1⟩
        obtain ⟨A1, d1, rfl⟩ := own_shape ho1
        have HB4 : Hid (Below w.heap.size w w4) := bel_step0 hb1 (bel_alloc0 HB.out)
        have HO4 : Hid (w4.ownsRow w.heap.size 3 1 (.slice uA (q2 + 1) uc) (q2 + 1) (numL .i64 (done2 ++ [z]))) := by
          rw [← HOUT.out]
          exact own_kept (HO.out.alloc (.cells #[.int .u64 r.time, .int .u8 r.level, .string r.source, .string r.text] 77)) (fun y hy => hb1.block y (by have := (World.ownsRow.lt HO.out y hy).2; simp; omega))
        clear ho1 hb1 D c0 c1 c2 c3 HO HB hz HOUT HQ
        have HZ4 := HB4.out.size
        obtain ⟨g, cg, hg9, hg0, _⟩ := HO4.out.form (by omega)
        injection hg9 with hg91 hg92 hg93
        subst hg91 hg93
        have hcell : w4.cell? ⟨g, q2, none⟩ = some (.int .i64 (z : Nat)) := glast_cell HO4.out HQ4.out
        have hfz := (Lz.own_cells HO4.out (show q2 < q2 + 1 by omega)).2.1
        have HO5 : Hid ((w4.setCell ⟨g, q2, none⟩ (.int .i64 (z + 1 : Nat))).ownsRow w.heap.size 3 1 (.slice (some ⟨g, 0, none⟩) (q2 + 1) uc) (q2 + 1) (numL .i64 (done2 ++ [z + 1]))) := glast_put HO4.out HQ4.out
        have HB5 : Hid (Below w.heap.size w (w4.setCell ⟨g, q2, none⟩ (.int .i64 (z + 1 : Nat)))) := bel_set hg0 HB4.out
        have u1 : IntKind.i64.wrap (((q2 + 1 : Nat) : Int) - 1) = (q2 : Int) := (by rw [IntWalk.i64_in _ (by omega)]; omega)
        have u1' : IntKind.i64.wrap ((q2 : Int) + 1 - 1) = (q2 : Int) := (by rw [IntWalk.i64_in _ (by omega)]; omega)
        have u2 : IntKind.i64.wrap ((z : Int) + 1) = ((z + 1 : Nat) : Int) := (by rw [IntWalk.i64_in _ (by omega)]; omega)
        have y0 : (0 : Int) ≤ (q2 : Int) := (by omega)
        have y1 : (q2 : Int) < ((q2 + 1 : Nat) : Int) := (by omega)
        go_wp2_with fail
        go_roundw
        case measure => go_light; simp [intOf]; omega
        case rel => go_light; exact ⟨k + 1, q2 + 1, hx', done2 ++ [z + 1], by omega, by omega, hxl, by first | rfl | go_num, by first | rfl | go_num, by show _ = _; rw [List.length_append, HQ4.out]; rfl, .inr ⟨by omega, done2, z + 1, rfl, by omega, HGO.out⟩, HO5.out, HB5.out⟩
    · obtain rfl : k = n := by omega
      have HF : Hid (out = R) := by
        rcases HC.out with ⟨h1, h2, _⟩ | ⟨_, done, z, h2, _, h4⟩
        · have e := HR.out
          have e2 := HE.out
          rw [h1, List.drop_zero] at e2
          rw [e2, groupsP] at e
          rw [h2]; exact e.symm
        · rw [HE.out, goG] at h4
          rw [h2]; exact h4
      clear HC
      go_wp2_with fail
      go_ret
      exact ⟨_, rfl, by rw [← HF.out, HQ.out]; exact HO.out, HB.out⟩
end Go.Proofs.YtmgjgkdbagbleaaGreatDoor.Recs
namespace Go.Proofs.YtmgjgkdbagbleaaGreatDoor.Nums
open Go.RowKit Go.Proofs.YtmgjgkdbagbleaaGreatDoor.Mem Go.Proofs.YtmgjgkdbagbleaaGreatDoor.Own Go.Proofs.YtmgjgkdbagbleaaGreatDoor.Canon Go.Proofs.YtmgjgkdbagbleaaGreatDoor.NumPut
open Go.Proofs.YtmgjgkdbagbleaaGreatDoor.Crc (row_num_drop row_num_take run_cuth')
def strN (ls : List Nat) : ByteArray := ⟨(ls.map UInt8.ofNat).toArray⟩
theorem sB_strN {ls : List Nat} (h : ∀ x ∈ ls, x ≤ 255) : sB (strN ls) = ls := by
  unfold sB strN
  simp only [List.map_map]
  conv => rhs; rw [← List.map_id ls]
  refine List.map_congr_left fun x hx => ?_
  have := h x hx
  simp [UInt8.toNat_ofNat']
  omega
theorem run_str {w : World} {B n c : Nat} {A : Option Addr} {ls : List Nat} (hr : Row w B A n 1 (numF .u8 ls)) (hn : ls.length = n) :
    (convert 22 9 (.slice A n c)).run Tryz.prog w = .ok (.string (strN ls)) w := by
  have e : strN ls = strOfNums (ls.map Int.ofNat) := by
    unfold strN strOfNums
    rw [List.map_map]
    rfl
  rcases Nat.eq_zero_or_pos n with h0 | h0
  · subst h0
    obtain rfl := List.length_eq_zero_iff.1 hn
    cases A with
    | none => exact run_convert_bytes_nil w _ _ Tryz.underlying22 Tryz.underlying5 _ _ _ Tryz.underlying9
    | some a =>
      rw [run_convert_bytes_string w _ _ _ _ _ _ Tryz.underlying22 Tryz.underlying5 Tryz.underlying9]
      rw [run_bytesToString w a 0 c [] (run_loadCells_list (P := Tryz.prog) w a [] (fun j v hj => by cases hj))]
      rfl
  · obtain ⟨b, off, rfl, _, hc⟩ := hr h0
    rw [e]
    refine run_convert_bytes_arg w _ _ Tryz.underlying22 Tryz.underlying5 b off n c (ls.map Int.ofNat) (by simpa using hn) (fun i hi => ?_) _ Tryz.underlying9
    have := hc i 0 hi (by omega)
    rw [Nat.mul_one, Nat.add_zero] at this
    rw [this]
    unfold numF
    congr 2
    simp [List.getD_eq_getElem?_getD, List.getElem?_map, List.getElem?_eq_getElem (show i < ls.length by omega)]
set_option maxRecDepth 100000 in
theorem left_any (w : World) (g base : Nat) (bs : List Nat) (A : Option Addr) (c at_ : Nat) (er : Int) (h : Cur w g base bs A c at_ er) :
    Calls Tryz.prog 133 #[.pointer (some ⟨g, 0, none⟩)] w fun e w' => e = .returned (.int .i64 (bs.length - at_ : Nat)) ∧ ∃ q, w' = w.drewN q := by
  have D := Lib.hid (rest_any w g base bs A c at_ er h)
  clear h
  generalize bs.length - at_ = m at *
  go_enter Tryz.func133, Tryz.ntmps133
  go_wp2_with fail
  refine D.out.mono ?_
  rintro e w2 ⟨rfl, q, rfl⟩
  go_wp2_with fail
  go_ret
  exact ⟨rfl, q, rfl⟩
set_option maxRecDepth 100000 in
theorem numstep_any (w : World) (g base ob : Nat) (bs : List Nat) (A : Option Addr) (c at_ : Nat) (hle : bs.length ≤ 100000) (h8 : ∀ x ∈ bs, x ≤ 255) (h : Cur w g base bs A c at_ 0) (hob : Blk w ob 70 #[.int .u64 0]) :
    Calls Tryz.prog 296 #[.slice (cutA A at_ c 1) (bs.length - at_) (c - at_), .pointer (some ⟨ob, 0, none⟩)] w fun e w' => ∃ (k : Nat) (e2 : Int), e = .returned (.tuple #[.int .i64 k, .int .i64 e2]) ∧ k ≤ 100000 ∧ Cur w' g base bs A c at_ 0 ∧
      (Kept (fun x => x ≠ ob) w w' ∧ k = (scanP (bs.drop at_) 0 0).2.1 ∧ e2 = (scanP (bs.drop at_) 0 0).2.2 ∧ Blk w' ob 70 #[.int .u64 (scanP (bs.drop at_) 0 0).1]) := by
  have f1 := hob.frozen 0
  have d1 := hob.cell 0
  simp only [List.getElem?_toArray, List.getElem?_cons_zero] at d1
  have hwf := own_wf h.own
  have hrow := row_num_drop (own_row h.own) h.le hwf.2
  have h8' : ∀ x ∈ bs.drop at_, x ≤ 255 := fun x hx => h8 x (List.mem_of_mem_drop hx)
  have D := scan_any w (cutA A at_ c 1) (bs.length - at_) (c - at_) (bs.drop at_) (by rw [List.length_drop]) (by omega) h8' hrow
  have hsp := scanP_spec (bs.drop at_) 0 0 h8' (by omega) (by simp)
  have hk : (scanP (bs.drop at_) 0 0).2.1 ≤ 100000 := by have := hsp.2.1; rw [List.length_drop] at this; omega
  generalize scanP (bs.drop at_) 0 0 = R at *
  have hne1 := Blk.apart hob h.blk (by decide)
  have D := Lib.hid D
  have H := Lib.hid h
  have HO := Lib.hid hob
  generalize cutA A at_ c 1 = A1 at *
  clear hrow h8' hsp h hob hwf
  go_enter Tryz.func296, Tryz.ntmps296
  go_wp2_with fail
  refine D.out.mono ?_
  rintro e w1 ⟨rfl, rfl⟩
  go_wp2_with fail
  go_ret2
  refine ⟨R.2.1, R.2.2, rfl, hk, ?_, (Kept.refl _ _).set (fun h => h rfl) _, rfl, rfl, HO.out.set 0 _⟩
  exact ⟨H.out.blk.far (fun e => hne1 e.symm) _, set_own H.out.own (own_blk H.out.own HO.out (by decide)) _, H.out.le, H.out.lo⟩
set_option maxRecDepth 100000 in
theorem num_any (w : World) (g base : Nat) (bs : List Nat) (A : Option Addr) (c at_ : Nat) (er : Int) (hle : bs.length ≤ 100000) (h8 : ∀ x ∈ bs, x ≤ 255) (h : Cur w g base bs A c at_ er) :
    Calls Tryz.prog 266 #[.pointer (some ⟨g, 0, none⟩)] w fun e w' => e = .returned (.int .u64 (numV bs at_ er : Nat)) ∧ Cur w' g base bs A c (numA bs at_ er) (numE bs at_ er) ∧ Kept (Others g w) w w' := by
  have hgl := h.blk.lt
  have h2 : Cur (w.alloc (.cells #[.int .u64 0] 70)) g base bs A c at_ er := (h.step (bel_alloc0 (Below.refl _ _)))
  have hob : Blk (w.alloc (.cells #[.int .u64 0] 70)) w.heap.size 70 #[.int .u64 0] := Blk.made _ _ _
  have hk2 : Kept (fun x => x < w.heap.size ∧ x ≠ g) w (w.alloc (.cells #[.int .u64 0] 70)) := Kept.of_below (by (repeat (first | (with_reducible exact Below.refl _ _) | (with_reducible assumption) | (with_reducible refine Below.drew ?_) | (with_reducible refine below_drewN ?_ _) | ((with_reducible refine bel_set ?_ ?_); (focus (first | (simp; done) | (simp; omega) | omega | (simp at *; omega)))) | (with_reducible refine bel_alloc0 ?_) | (with_reducible refine bel_step0 (by assumption) ?_) | ((with_reducible refine bel_alloc ?_ ?_); (focus (first | (simp; done) | (simp; omega) | omega | (simp at *; omega)))) | ((with_reducible refine bel_step (by assumption) ?_ ?_); (focus (first | (simp; done) | (simp; omega) | omega | (simp at *; omega)))))) : Below w.heap.size w _) (fun x hx => hx.1)
  have hat := h.le
  unfold Others
  by_cases he : er = 0
  · subst he
    have hKf : ∀ args wx, (callFunc 296 args).run Tryz.prog wx = .ok (.enter 296 args) wx := by
      intro args wx; simp [callFunc, go_sem, Tryz.func296]; rfl
    have D := fun w2 (hc2 : Cur w2 g base bs A c at_ 0) (hob : Blk w2 w.heap.size 70 #[.int .u64 0]) => read_ok w2 g base bs A c at_ hc2 hle 296 #[.pointer (some ⟨w.heap.size, 0, none⟩)]
      (fun k e2 w' => Kept (fun x => x ≠ w.heap.size) w2 w' ∧ k = (scanP (bs.drop at_) 0 0).2.1 ∧ e2 = (scanP (bs.drop at_) 0 0).2.2 ∧ Blk w' w.heap.size 70 #[.int .u64 (scanP (bs.drop at_) 0 0).1]) hKf
      (fun q => (numstep_any (w2.drewN q) g base w.heap.size bs A c at_ hle h8 (hc2.drewN q) (hob.drewN q)).mono fun e w' ⟨k, e2, h1, h2, h3, h4⟩ => ⟨k, e2, h1, h2, h3, ⟨⟨h4.1.os, h4.1.tape, h4.1.output, h4.1.size, h4.1.block⟩, h4.2⟩⟩)
    have D := Lib.hid (D _ h2 hob)
    have h8' : ∀ x ∈ bs.drop at_, x ≤ 255 := fun x hx => h8 x (List.mem_of_mem_drop hx)
    have hsp := scanP_spec (bs.drop at_) 0 0 h8' (by omega) (by simp)
    rw [List.length_drop] at hsp
    have eV : numV bs at_ 0 = (scanP (bs.drop at_) 0 0).1 := if_neg (by simp)
    have eA : numA bs at_ 0 = at_ + (scanP (bs.drop at_) 0 0).2.1 := if_neg (by simp)
    have eE : numE bs at_ 0 = (scanP (bs.drop at_) 0 0).2.2 := if_neg (by simp)
    rw [eV, eA, eE]
    generalize scanP (bs.drop at_) 0 0 = R at *
    have HK := Lib.hid hk2
    have hgo : w.heap.size ≠ g := by omega
    have HSP := Lib.hid hsp
    clear hKf h2 hob hk2 h8' hsp eV eA eE
    by_cases hR : R.2.2 = 0
    · have hfit : at_ + R.2.1 ≤ bs.length := by have := HSP.out.2.1; omega
      go_enter Tryz.func266, Tryz.ntmps266
      go_wp2_with fail
      refine D.out.mono ?_
      rintro e w4 ⟨k, e2, w3, ⟨hk3, hkk, hee, hblk⟩, hc3, hcase⟩
      rcases hcase with ⟨h0, _, _⟩ | ⟨_, rfl, rfl⟩
      · exact absurd (hee.trans hR) h0
      · have HK3 : Hid (Kept (fun x => x < w.heap.size ∧ x ≠ g) w w3) := HK.out.trans ⟨hk3.os, hk3.tape, hk3.output, hk3.size, fun x hx => hk3.block x (by omega)⟩
        have hB := hblk.far (fun e => hgo e) (p := ⟨g, 1, none⟩) (.int .i64 (at_ + k : Nat))
        have d0 := hB.cell 0
        simp only [List.getElem?_toArray, List.getElem?_cons_zero] at d0
        have HC := Lib.hid (hc3.setAt (at_ + k) (by omega))
        rw [hkk] at HC
        have HK4 : Hid (Kept (fun x => x < w.heap.size ∧ x ≠ g) w (w3.setCell ⟨g, 1, none⟩ (.int .i64 (at_ + k : Nat)))) := HK3.out.set (fun h => h.2 rfl) _
        rw [← hkk] at HC
        have HC2 : Hid (Cur (w3.setCell ⟨g, 1, none⟩ (.int .i64 (at_ + k : Nat))) g base bs A c (at_ + R.2.1) R.2.2) := by rw [hR, ← hkk]; exact HC.out
        generalize w3.setCell ⟨g, 1, none⟩ (.int .i64 (at_ + k : Nat)) = w5 at *
        clear hB hblk hc3 hk3 D HK3 HK hkk hee HC hR
        go_wp2_with fail
        go_ret
        exact ⟨rfl, HC2.out, HK4.out⟩
    · have hz := HSP.out.2.2.2.1 hR
      go_enter Tryz.func266, Tryz.ntmps266
      go_wp2_with fail
      refine D.out.mono ?_
      rintro e w4 ⟨k, e2, w3, ⟨hk3, hkk, hee, hblk⟩, hc3, hcase⟩
      rcases hcase with ⟨_, rfl, rfl⟩ | ⟨h0, _, _⟩
      · have HK3 : Hid (Kept (fun x => x < w.heap.size ∧ x ≠ g) w w3) := HK.out.trans ⟨hk3.os, hk3.tape, hk3.output, hk3.size, fun x hx => hk3.block x (by omega)⟩
        have HC2 : Hid (Cur (w3.setCell ⟨g, 2, none⟩ (.int .i64 e2)) g base bs A c (at_ + R.2.1) R.2.2) := by rw [hz.2, ← hee]; exact hc3.setErr e2
        have HK4 : Hid (Kept (fun x => x < w.heap.size ∧ x ≠ g) w (w3.setCell ⟨g, 2, none⟩ (.int .i64 e2))) := HK3.out.set (fun h => h.2 rfl) _
        generalize w3.setCell ⟨g, 2, none⟩ (.int .i64 e2) = w5 at *
        have HZ := Lib.hid hz.1
        clear hblk hc3 hk3 D HK3 HK hkk hee hR hz
        go_wp2_with fail
        go_ret
        exact ⟨by rw [HZ.out]; rfl, HC2.out, HK4.out⟩
      · exact absurd (hee.symm.trans h0) hR
  · have D := Lib.hid (read_err _ g base bs A c at_ er h2 he (.func (.func 296) #[] #[.pointer (some ⟨w.heap.size, 0, none⟩)]))
    have eV : numV bs at_ er = 0 := if_pos he
    have eA : numA bs at_ er = at_ := if_pos he
    have eE : numE bs at_ er = er := if_pos he
    rw [eV, eA, eE]
    have HK := Lib.hid hk2
    have HC := Lib.hid h2
    clear h2 hob hk2 he eV eA eE
    go_enter Tryz.func266, Tryz.ntmps266
    go_wp2_with fail
    refine D.out.mono ?_
    rintro e w4 ⟨rfl, rfl⟩
    go_wp2_with fail
    go_ret
    exact ⟨rfl, HC.out, HK.out⟩
end Go.Proofs.YtmgjgkdbagbleaaGreatDoor.Nums
namespace Go.Proofs.YtmgjgkdbagbleaaGreatDoor.One
open Go.RowKit Go.Proofs.YtmgjgkdbagbleaaGreatDoor.Mem Go.Proofs.YtmgjgkdbagbleaaGreatDoor.Own Go.Proofs.YtmgjgkdbagbleaaGreatDoor.Canon Go.Proofs.YtmgjgkdbagbleaaGreatDoor.NumPut Go.Proofs.YtmgjgkdbagbleaaGreatDoor.Crc
open Go.Proofs.YtmgjgkdbagbleaaGreatDoor.Recs Go.Proofs.YtmgjgkdbagbleaaGreatDoor.Opts
open Go.Proofs.YtmgjgkdbagbleaaGreatDoor.Block (frameB WPost part_own write_any)
def markB (v : Nat) : List Nat := [70, 73, 82, 75, v]
def flagN (b : Bool) : Nat := if b = true then 1 else 0
def headO (o : Opt) (n g : Nat) : List Nat := markB 1 ++ (numB o.block.toNat ++ ([flagN o.plain] ++ (numB n ++ (numB g ++ []))))
def framesP (pl : Bool) : List Nat → List Rec → List (List Nat)
  | [], _ => []
  | c :: t, l => frameB (bytesB true (l.take c)) pl :: framesP pl t (l.drop c)
def countsO (o : Opt) (l : List Rec) : List Nat := groupsP o.block.toNat (lensB true l)
def bodyO (o : Opt) (l : List Rec) : List Nat := headO o l.length (countsO o l).length ++ (framesP o.plain (countsO o l) l).flatten
def packB (o : Opt) (l : List Rec) : List Nat := bodyO o l ++ tailN (sumN (bodyO o l))
theorem goG_sum (S : Nat) : ∀ (t : List Nat) (h c : Nat), (goG S h c t).sum = c + t.length
  | [], _, c => by simp [goG]
  | x :: t, h, c => by
    rw [goG]
    split
    · rw [List.sum_cons, goG_sum S t]; simp; omega
    · rw [goG_sum S t]; simp; omega
theorem goG_pos (S : Nat) : ∀ (t : List Nat) (h c : Nat), 1 ≤ c → ∀ x ∈ goG S h c t, 1 ≤ x
  | [], _, c, hc, x, hx => by rw [goG, List.mem_singleton] at hx; omega
  | y :: t, h, c, hc, x, hx => by
    rw [goG] at hx
    split at hx
    · rcases List.mem_cons.1 hx with rfl | hx
      · exact hc
      · exact goG_pos S t _ 1 (by omega) x hx
    · exact goG_pos S t _ (c + 1) (by omega) x hx
theorem groups_sum (S : Nat) (l : List Nat) : (groupsP S l).sum = l.length := by
  cases l with
  | nil => rfl
  | cons x t => rw [groupsP, goG_sum]; simp; omega
theorem groups_pos (S : Nat) (l : List Nat) : ∀ x ∈ groupsP S l, 1 ≤ x := by
  cases l with
  | nil => intro x hx; cases hx
  | cons y t => exact goG_pos S t y 1 (by omega)
theorem pos_length : ∀ {l : List Nat}, (∀ x ∈ l, 1 ≤ x) → l.length ≤ l.sum
  | [], _ => by simp
  | x :: l, h => by
    have h1 := h x (by simp)
    have h2 := pos_length (l := l) (fun y hy => h y (by simp [hy]))
    rw [List.length_cons, List.sum_cons]
    omega
theorem lensB_length (wh : Bool) (l : List Rec) : (lensB wh l).length = l.length := by unfold lensB; rw [List.length_map]
theorem counts_sum (o : Opt) (l : List Rec) : (countsO o l).sum = l.length := by unfold countsO; rw [groups_sum, lensB_length]
theorem counts_len (o : Opt) (l : List Rec) : (countsO o l).length ≤ l.length := by
  have := pos_length (groups_pos o.block.toNat (lensB true l))
  rw [groups_sum, lensB_length] at this
  exact this
theorem run_app_new8 {P : Program} (w : World) (t ty e : TypeId) (i : TypeInfo) (ht : P.underlying t = some (.slice e)) (hi : P.info? e = some i) (hz : i.zero = some (.int .u8 0)) (hsize : i.size = 1) (hby : i.bytes = 1)
    (b : Addr) (n c : Nat) (olds : List Value) (hlo : olds.length = n) (holds : ∀ j v, olds[j]? = some v → w.cell? (b.add j) = some v)
    (a : Addr) (m c2 : Nat) (news : List Value) (hl : news.length = m) (hnews : ∀ j v, news[j]? = some v → w.cell? (a.add j) = some v) (hg : c < n + m) (h63 : n + m ≤ 1000000) :
    ∃ v' w', (Builtin.append_ #[t, t] ty #[.slice (some b) n c, .slice (some a) m c2]).run P w = .ok v' w' ∧ w'.ownsRow w.heap.size e 1 v' (n + m) (olds ++ news) ∧ Below w.heap.size w w' := by
  have hr := run_append_grow (P := P) w t ty e i (.int .u8 0) ht hi hz b n c olds (by rw [hsize]; omega) holds a m c2 news (by rw [hsize]; omega) hnews hg (by omega) (by rw [hby]; exact growslice_fits (by omega) (by omega))
  have hge := grownCap_ge w (n + m) c e
  have hcm : grownCap w (n + m) c e ≤ maxLen := grownCap_le_maxLen w (n + m) c e (by unfold maxLen; omega)
  refine ⟨_, _, hr, ⟨by rw [List.length_append]; omega, .inr ⟨w.heap.size, _, _, rfl, Nat.le_refl _, heap_alloc_new w.drew _, hge, hcm, ?_, ?_⟩⟩, ((Below.refl _ _).drew).alloc (Nat.le_refl _) _⟩
  · have hz1 : (Value.int IntKind.u8 0).cells.size = 1 := rfl
    simp only [Array.size_append, List.size_toArray, size_zeroCells, hz1]
    omega
  · simp only [Array.toList_append, List.append_assoc]
    rw [← List.append_assoc]
    have hlen : (olds ++ news).length = (n + m) * 1 := by rw [List.length_append]; omega
    rw [← hlen]
    exact List.take_left
theorem wpList_app_new8 {P : Program} {w : World} {ops : Array Oper} {rest : List Oper} {o : Oper} {a : Act} {Q : Exit → Act → World → Prop} (hgd : o.guard = none) (s x : Operand) (t : TypeId)
    (ho : o.op = .call { callee := .builtin .append, args := #[s, x], argTypes := #[t, t] }) (e : TypeId) (i : TypeInfo) (ht : P.underlying t = some (.slice e)) (hi : P.info? e = some i) (hz : i.zero = some (.int .u8 0)) (hsize : i.size = 1) (hby : i.bytes = 1)
    (b : Addr) (n c : Nat) (olds : List Value) (hs : a.eval s = .slice (some b) n c) (hlo : olds.length = n) (holds : ∀ j v, olds[j]? = some v → w.cell? (b.add j) = some v)
    (ad : Addr) (m c2 : Nat) (news : List Value) (hx : a.eval x = .slice (some ad) m c2) (hl : news.length = m) (hnews : ∀ j v, news[j]? = some v → w.cell? (ad.add j) = some v) (hg : c < n + m) (h63 : n + m ≤ 1000000)
    (h : ∀ v' w', w'.ownsRow w.heap.size e 1 v' (n + m) (olds ++ news) → Below w.heap.size w w' → wpList P ops Q rest (a.put o.dst v') w') : wpList P ops Q (o :: rest) a w := by
  refine wpList_plain hgd fun K hK => ?_
  obtain ⟨v', w', hr, h2, h3⟩ := run_app_new8 (P := P) w t o.type e i ht hi hz hsize hby b n c olds hlo holds ad m c2 news hl hnews hg h63
  unfold Oper.wp execOp
  simp only [ho, resolve, invoke, builtin, Sem.run_bind, Sem.run_pure, Result.andThen_ok, List.map_toArray, List.map_cons, List.map_nil, hs, hx, hr]
  exact hK _ _ (h v' w' h2 h3)
set_option maxRecDepth 100000 in
theorem mark_any (w : World) :
    Calls Tryz.prog 78 #[.int .i64 1] w fun e w' => ∃ v, e = .returned (.tuple #[v, .int .i64 0]) ∧ w'.ownsRow w.heap.size 5 1 v 5 (numL .u8 (markB 1)) ∧ Below w.heap.size w w' := by
  obtain ⟨j0, hj0, hy0, hy1, hy2⟩ := info_parts info_u8
  have D := Lib.hid (fun wx => within_any wx 1 1 3)
  have hd : decide ((1 : Int) ≤ 1 ∧ (1 : Int) ≤ 3) = true := by decide
  rw [hd] at D
  go_enter Tryz.func78, Tryz.ntmps78
  go_wp2_with fail
  refine (D.out _).mono ?_
  rintro e w1 ⟨rfl, rfl⟩
  clear D hd
  have kc := fun (w : World) (C : Array Value) (n c : Nat) => Lib.run_convert_bytes_const (P := Tryz.prog) w 22 5 C n c Tryz.underlying22 Tryz.underlying5
  have c1 : IntKind.u8.wrap 1 = 1 := rfl
  have HB : Hid (Below w1.heap.size w1 ((w1.alloc (.cells #[.int .u8 70, .int .u8 73, .int .u8 82, .int .u8 75] 5 (4, 5))).alloc (.cells #[.int .u8 1] 5))) := bel_alloc0 (bel_alloc0 (Below.refl _ _))
  have HC : Hid (∀ j v, ([.int .u8 70, .int .u8 73, .int .u8 82, .int .u8 75] : List Value)[j]? = some v → ((w1.alloc (.cells #[.int .u8 70, .int .u8 73, .int .u8 82, .int .u8 75] 5 (4, 5))).alloc (.cells #[.int .u8 1] 5)).cell? ((⟨w1.heap.size, 0, none⟩ : Addr).add j) = some v) := fun j v hj => by
    have e := (bel_alloc0 (Below.refl (w1.alloc (.cells #[.int .u8 70, .int .u8 73, .int .u8 82, .int .u8 75] 5 (4, 5))).heap.size (w1.alloc (.cells #[.int .u8 70, .int .u8 73, .int .u8 82, .int .u8 75] 5 (4, 5)))) (o := (.cells #[.int .u8 1] 5))).cell (p := ⟨w1.heap.size, j, none⟩) (by simp)
    rw [add_none, Nat.zero_add, e, World.cell?_alloc_mark]
    simpa using hj
  have HN : Hid (∀ j v, ([.int .u8 1] : List Value)[j]? = some v → ((w1.alloc (.cells #[.int .u8 70, .int .u8 73, .int .u8 82, .int .u8 75] 5 (4, 5))).alloc (.cells #[.int .u8 1] 5)).cell? ((⟨w1.heap.size + 1, 0, none⟩ : Addr).add j) = some v) := fun j v hj => by
    have hb : Blk ((w1.alloc (.cells #[.int .u8 70, .int .u8 73, .int .u8 82, .int .u8 75] 5 (4, 5))).alloc (.cells #[.int .u8 1] 5)) (w1.heap.size + 1) 5 #[.int .u8 1] := Blk.made_at _ _ _ (by simp)
    rw [add_none, Nat.zero_add, hb.cell]
    simpa using hj
  go_wp2_with (at_builtin; refine wpList_app_new8 rfl (.tmp 8) (.tmp 11) 22 rfl 5 j0 Tryz.underlying22 hj0 hy0 hy1 hy2 ⟨w1.heap.size, 0, none⟩ 4 4 [.int .u8 70, .int .u8 73, .int .u8 82, .int .u8 75] (by rfl) rfl HC.out _ 1 1 [.int .u8 1] (by rfl) rfl HN.out (by omega) (by omega) ?_; intro v4 w4 hown4 hb4)
  go_ret2
  exact ⟨_, rfl, own_mono hown4 HB.out.size, bel_step0 hb4 HB.out⟩
theorem flag_any (w : World) (b : Bool) : Calls Tryz.prog 81 #[.bool b] w fun e w' => e = .returned (.int .u8 (flagN b : Nat)) ∧ w' = w := by
  cases b with
  | true =>
    go_enter Tryz.func81, Tryz.ntmps81
    go_wp2_with fail
    go_ret
    exact ⟨rfl, rfl⟩
  | false =>
    go_enter Tryz.func81, Tryz.ntmps81
    go_wp2_with fail
    go_ret
    exact ⟨rfl, rfl⟩
end Go.Proofs.YtmgjgkdbagbleaaGreatDoor.One
namespace Go.Proofs.YtmgjgkdbagbleaaGreatDoor.One
open Go.RowKit Go.Proofs.YtmgjgkdbagbleaaGreatDoor.Mem Go.Proofs.YtmgjgkdbagbleaaGreatDoor.Own Go.Proofs.YtmgjgkdbagbleaaGreatDoor.Canon Go.Proofs.YtmgjgkdbagbleaaGreatDoor.NumPut Go.Proofs.YtmgjgkdbagbleaaGreatDoor.Crc
open Go.Proofs.YtmgjgkdbagbleaaGreatDoor.Recs Go.Proofs.YtmgjgkdbagbleaaGreatDoor.Opts
open Go.Proofs.YtmgjgkdbagbleaaGreatDoor.Block (frameB WPost part_own part_blk write_any)
def PackPost (o : Opt) (l : List Rec) (w : World) (e : Ending) (w' : World) : Prop :=
  ∃ v, e = .returned (.tuple #[v, .int .i64 0]) ∧ w'.ownsRow w.heap.size 5 1 v (packB o l).length (numL .u8 (packB o l)) ∧ Below w.heap.size w w'
theorem optE_ok {o : Opt} (h : optE o = 0) : 16 ≤ o.block ∧ o.block ≤ 32768 := by
  unfold optE at h
  split at h
  · rename_i h1; exact h1.1
  · cases h
theorem chkE_ok {l : List Rec} (h : chkE l = 0) : ∀ r ∈ l, longB r = false := by
  unfold chkE at h
  split at h
  · cases h
  · split at h
    · cases h
    · rename_i h1
      intro r hr
      cases hb : longB r
      · rfl
      · exact absurd (List.any_eq_true.2 ⟨r, hr, hb⟩) h1
theorem recF_take {l : List Rec} {m i : Nat} (h : i < m) (j : Nat) : recF (l.take m) i j = recF l i j := by
  have e : (l.take m).getD i recd = l.getD i recd := by
    rw [List.getD_eq_getElem?_getD, List.getD_eq_getElem?_getD, List.getElem?_take, if_pos h]
  unfold recF
  rw [e]
theorem recF_drop' (l : List Rec) (k i j : Nat) : recF l (k + i) j = recF (l.drop k) i j := by
  have e : (l.drop k).getD i recd = l.getD (k + i) recd := by
    rw [List.getD_eq_getElem?_getD, List.getD_eq_getElem?_getD, List.getElem?_drop]
  unfold recF
  rw [e]
theorem row_take {w : World} {B n m : Nat} {A : Option Addr} {l : List Rec} (h : Row w B A n 4 (recF l)) (hm : m ≤ n) : Row w B A m 4 (recF (l.take m)) := fun h0 => by
  obtain ⟨b, off, rfl, hb, hc⟩ := h (by omega)
  exact ⟨b, off, rfl, hb, fun i j hi hj => (hc i j (by omega) hj).trans (by rw [recF_take hi])⟩
theorem row_drop {w : World} {B n m c : Nat} {A : Option Addr} {l : List Rec} (h : Row w B A n 4 (recF l)) (hm : m ≤ n) (hc : n ≤ c) : Row w B (cutA A m c 4) (n - m) 4 (recF (l.drop m)) :=
  h.cut m (n - m) (by omega) hc (fun i j _ _ => recF_drop' l m i j)
theorem row_add0 {w : World} {B n : Nat} {A : Option Addr} {l : List Rec} (h : Row w B A n 4 (recF l)) (h0 : 0 < n) : ∀ a, A = some a → a.add 0 = a := by
  intro a ha
  obtain ⟨b, off, rfl, _, _⟩ := h h0
  injection ha with ha
  subst ha
  exact add_none' b off 0
theorem bytesB_le (wh : Bool) {l l' : List Rec} (h : l.Sublist l') : (bytesB wh l).length ≤ (bytesB wh l').length := by
  induction h with
  | slnil => exact Nat.le_refl _
  | cons a _ ih => unfold bytesB at *; rw [List.flatMap_cons, List.length_append]; omega
  | cons_cons a _ ih => unfold bytesB at *; rw [List.flatMap_cons, List.flatMap_cons, List.length_append, List.length_append]; omega
theorem frame_max {bs : List Nat} (plain : Bool) (h : bs.length ≤ 16000) : (frameB bs plain).length ≤ bs.length + 25 := by
  have hb : (Block.fBody bs plain).length ≤ bs.length := by
    unfold Block.fBody
    split
    · rename_i hc
      rw [Bool.and_eq_true] at hc
      have h2 := hc.2
      unfold Block.sqz at h2
      simp at h2
      omega
    · omega
  have h1 := numB_len64 (x := bs.length) (by omega)
  have h2 := numB_len64 (x := (Block.fBody bs plain).length) (by omega)
  unfold frameB Block.fAll Block.fHead
  simp only [List.length_append, List.length_singleton]
  have : (tailN (sumN (([Block.fWay bs plain] ++ numB bs.length ++ numB (Block.fBody bs plain).length) ++ Block.fBody bs plain))).length = 4 := rfl
  omega
theorem bytesB_split (wh : Bool) (l : List Rec) (m : Nat) : (bytesB wh (l.take m)).length + (bytesB wh (l.drop m)).length = (bytesB wh l).length := by
  conv => rhs; rw [← List.take_append_drop m l]
  unfold bytesB
  rw [List.flatMap_append, List.length_append]
theorem frames_u8 (pl : Bool) : ∀ (cs : List Nat) (l : List Rec), (∀ r ∈ l, RecOk r) → ∀ x ∈ (framesP pl cs l).flatten, x ≤ 255
  | [], _, _ => by simp [framesP]
  | c :: t, l, h => by
    intro x hx
    rw [framesP, List.flatten_cons] at hx
    rcases List.mem_append.1 hx with hx | hx
    · have h8 := bytesB_u8 true (l := l.take c) (fun r hr => h r (List.mem_of_mem_take hr))
      generalize bytesB true (l.take c) = bs at *
      unfold frameB Block.fAll Block.fHead at hx
      simp only [List.mem_append, List.mem_singleton] at hx
      rcases hx with (((rfl | hx) | hx) | hx) | hx
      · unfold Block.fWay; split <;> omega
      · exact numB_u8 _ x hx
      · exact numB_u8 _ x hx
      · unfold Block.fBody at hx
        split at hx
        · exact Block.writeO_le3 _ x hx
        · exact h8 x hx
      · have := tail_bytes _ x hx; omega
    · exact frames_u8 pl t _ (fun r hr => h r (List.mem_of_mem_drop hr)) x hx
theorem head_u8 {S n g fl : Nat} (h : fl ≤ 1) : ∀ x ∈ markB 1 ++ (numB S ++ ([fl] ++ (numB n ++ (numB g ++ [])))), x ≤ 255 := by
  intro x hx
  simp only [List.mem_append, List.mem_singleton, List.append_nil] at hx
  rcases hx with hx | hx | rfl | hx | hx
  · revert x; decide
  · exact numB_u8 _ x hx
  · omega
  · exact numB_u8 _ x hx
  · exact numB_u8 _ x hx
set_option maxHeartbeats 4000000 in
set_option maxRecDepth 100000 in
theorem pack_any (w : World) (o : Opt) (A : Option Addr) (n c : Nat) (l : List Rec) (ho : optE o = 0) (hn : l.length = n) (hN : n ≤ 1000) (hc : n ≤ c) (hok : ∀ r ∈ l, RecOk r) (hk : chkE l = 0) (hb : (bytesB true l).length ≤ 16000) (ht : TabAt w) (ha : Row w w.heap.size A n 4 (recF l)) :
    Calls Tryz.prog 23 #[o.val, .slice A n c] w (PackPost o l w) := by
  obtain ⟨j0, hj0, hy0, hy1, hy2⟩ := info_parts info_u8
  have hlong := chkE_ok hk
  obtain ⟨hb1, hb2⟩ := optE_ok ho
  have hgl := counts_len o l
  have hgs := counts_sum o l
  have hgp : ∀ x ∈ countsO o l, 1 ≤ x := groups_pos _ _
  rw [hn] at hgl
  obtain ⟨blk, pl, bu, da, pa, ch⟩ := o
  simp only at hb1 hb2
  obtain ⟨S, rfl⟩ := Int.eq_ofNat_of_zero_le (show 0 ≤ blk by omega)
  have D1 := Lib.hid (fun wx => ocheck_any wx ⟨(S : Nat), pl, bu, da, pa, ch⟩)
  rw [ho] at D1
  have D2 := Lib.hid (fun wx (hx : Below w.heap.size w wx) => rcheck_any wx A n c l hn (by omega) ((ha.below hx).mono hx.size))
  rw [hk] at D2
  have D3 := Lib.hid (fun wx (hx : Below w.heap.size w wx) => groups_any wx S true A n c l (by omega) (by omega) hn (by omega) hok hlong ((ha.below hx).mono hx.size))
  have D4 := Lib.hid (fun wx => mark_any wx)
  have D5 := Lib.hid (fun wx => num64_any wx S (by omega))
  have D6 := Lib.hid (fun wx => num64_any wx n (by omega))
  have D7 := Lib.hid (fun wx => num64_any wx (countsO ⟨(S : Nat), pl, bu, da, pa, ch⟩ l).length (by omega))
  have D8 := Lib.hid (fun wx => flag_any wx pl)
  have hx1 := numB_len64 (x := S) (by omega)
  have hx2 := numB_len64 (x := n) (by omega)
  have hx3 := numB_len64 (x := (countsO ⟨(S : Nat), pl, bu, da, pa, ch⟩ l).length) (by omega)
  unfold GroupsPost at D3
  have hcE : groupsP S (lensB true l) = countsO ⟨(S : Nat), pl, bu, da, pa, ch⟩ l := rfl
  rw [hcE] at D3
  unfold PackPost Opt.val
  unfold Opt.val at D1
  simp only at D1 ⊢
  have HPK : Hid (packB ⟨(S : Nat), pl, bu, da, pa, ch⟩ l = (markB 1 ++ (numB S ++ ([flagN pl] ++ (numB n ++ (numB (countsO ⟨(S : Nat), pl, bu, da, pa, ch⟩ l).length ++ [])))) ++ (framesP pl (countsO ⟨(S : Nat), pl, bu, da, pa, ch⟩ l) l).flatten) ++ tailN (sumN (markB 1 ++ (numB S ++ ([flagN pl] ++ (numB n ++ (numB (countsO ⟨(S : Nat), pl, bu, da, pa, ch⟩ l).length ++ [])))) ++ (framesP pl (countsO ⟨(S : Nat), pl, bu, da, pa, ch⟩ l) l).flatten))) := by
    unfold packB bodyO headO
    rw [hn]
    rfl
  have hF8 := frames_u8 pl (countsO ⟨(S : Nat), pl, bu, da, pa, ch⟩ l) l hok
  have hH8 := head_u8 (S := S) (n := n) (g := (countsO ⟨(S : Nat), pl, bu, da, pa, ch⟩ l).length) (fl := flagN pl) (by unfold flagN; split <;> omega)
  generalize packB ⟨(S : Nat), pl, bu, da, pa, ch⟩ l = PK at *
  generalize countsO ⟨(S : Nat), pl, bu, da, pa, ch⟩ l = G at *
  obtain ⟨g, hg⟩ : ∃ g, g = G.length := ⟨_, rfl⟩
  rw [← hg] at D7 HPK hx3 hgl D3 hH8
  have u1 : IntKind.u64.wrap (S : Int) = (S : Int) := by rw [IntKind.wrap_u64]; omega
  have u2 : IntKind.u64.wrap (n : Int) = (n : Int) := by rw [IntKind.wrap_u64]; omega
  have u3 : IntKind.u64.wrap (g : Int) = (g : Int) := by rw [IntKind.wrap_u64]; omega
  generalize numB S = X1 at *
  generalize numB n = X2 at *
  generalize numB g = X3 at *
  generalize flagN pl = fl at *
  have HGL := Lib.hid hg
  have HGS := Lib.hid hgs
  have HPOS := Lib.hid hgp
  have HF8 := Lib.hid hF8
  have HH8 := Lib.hid hH8
  clear ho hk hcE hg hgs hgp hF8 hH8
  go_enter Tryz.func23, Tryz.ntmps23
  go_wp2_with fail
  have hba : Blk (w.alloc (.cells #[.int .i64 S, .bool pl, .int .i64 bu, .int .i64 da, .int .i64 pa, .int .i64 ch] 25)) w.heap.size 25 #[.int .i64 S, .bool pl, .int .i64 bu, .int .i64 da, .int .i64 pa, .int .i64 ch] := Blk.made _ _ _
  have hbw : Below w.heap.size w (w.alloc (.cells #[.int .i64 S, .bool pl, .int .i64 bu, .int .i64 da, .int .i64 pa, .int .i64 ch] 25)) := bel_alloc0 (Below.refl _ _)
  have hzw : (w.alloc (.cells #[.int .i64 S, .bool pl, .int .i64 bu, .int .i64 da, .int .i64 pa, .int .i64 ch] 25)).heap.size = w.heap.size + 1 := by simp
  generalize w.alloc (.cells #[.int .i64 S, .bool pl, .int .i64 bu, .int .i64 da, .int .i64 pa, .int .i64 ch] 25) = wa at *
  have hzw2 : w.heap.size < wa.heap.size := by omega
  have HBW := Lib.hid hbw
  have HS : Hid (∀ wx, Below wa.heap.size wa wx → wx.cell? ⟨w.heap.size, 0, none⟩ = some (.int .i64 S) ∧ wx.cell? ⟨w.heap.size, 1, none⟩ = some (.bool pl)) := fun wx h => ⟨(hba.step h).cell 0, (hba.step h).cell 1⟩
  have HWA : Hid (∀ wx, Below wa.heap.size wa wx → Below w.heap.size w wx) := fun wx h => hbw.trans (h.mono hbw.size)
  clear hba hbw hzw
  refine (D1.out _).mono ?_
  rintro e w1 ⟨rfl, hb1'⟩
  have B1 := Lib.hid hb1'
  have E2 := Lib.hid (D2.out w1 (HWA.out _ hb1'))
  clear hb1' D1 D2
  go_wp2_with fail
  refine E2.out.mono ?_
  rintro e w2 ⟨rfl, hb2'⟩
  have B2 : Hid (Below wa.heap.size wa w2) := bel_step0 hb2' B1.out
  have E3 := Lib.hid (D3.out w2 (HWA.out _ B2.out))
  have k0 := (HS.out w2 B2.out).1
  clear hb2' E2 D3 B1
  go_wp2_with fail
  refine E3.out.mono ?_
  rintro e w3 ⟨vG, rfl, hoG, hb3⟩
  obtain ⟨AG, cG, rfl⟩ := own_shape hoG
  have B3 : Hid (Below wa.heap.size wa w3) := bel_step0 hb3 B2.out
  have HOG := Lib.hid (own_mono hoG B2.out.size)
  clear hb3 hoG E3 B2 k0
  go_wp2_with fail
  refine (D4.out _).mono ?_
  rintro e w4 ⟨vM, rfl, hoM, hb4⟩
  obtain ⟨AM, cM, rfl⟩ := own_shape hoM
  have B4 : Hid (Below wa.heap.size wa w4) := bel_step0 hb4 B3.out
  have PM : Hid (Part.Ok (⟨AM, cM, markB 1⟩ : Part) w4) := part_own hoM rfl
  have HOG4 : Hid (w4.ownsRow wa.heap.size 3 1 (.slice AG g cG) g (numL .i64 G)) := own_kept HOG.out (fun y hy => hb4.block y (World.ownsRow.lt HOG.out y hy).2)
  have HS4 : Hid (∀ wx, Below w4.heap.size w4 wx → wx.cell? ⟨w.heap.size, 0, none⟩ = some (.int .i64 S) ∧ wx.cell? ⟨w.heap.size, 1, none⟩ = some (.bool pl)) := fun wx h => HS.out wx (bel_step0 h B4.out)
  have hs5 : ∀ a1 a2 a3 a4 a5 a6 a7 a8 a9 b1, sumL [(⟨a1, a2, markB 1⟩ : Part), ⟨a3, a4, X1⟩, ⟨a5, a6, [fl]⟩, ⟨a7, a8, X2⟩, ⟨a9, b1, X3⟩] ≤ 1000000 := fun _ _ _ _ _ _ _ _ _ _ => by simp [sumL, markB]; omega
  clear hoM hb4 D4 B3 HOG
  obtain ⟨H0, hH0⟩ : ∃ H0, H0 = markB 1 ++ (X1 ++ ([fl] ++ (X2 ++ (X3 ++ [])))) := ⟨_, rfl⟩
  obtain ⟨h0, hh0⟩ : ∃ h0, h0 = (markB 1 ++ (X1 ++ ([fl] ++ (X2 ++ (X3 ++ []))))).length := ⟨_, rfl⟩
  have HH0 : Hid (H0 = markB 1 ++ (X1 ++ ([fl] ++ (X2 ++ (X3 ++ [])))) ∧ h0 = (markB 1 ++ (X1 ++ ([fl] ++ (X2 ++ (X3 ++ []))))).length) := ⟨hH0, hh0⟩
  clear hH0 hh0
  go_upto_region 9 with fail
  go_cut [9] (fun v wx => Hid (wx.ownsRow w4.heap.size 5 1 v h0 (numL .u8 H0)) ∧ Hid (Below w4.heap.size w4 wx))
  case first =>
    go_region_held3 (fun wx => wx.cell? ⟨w.heap.size, 0, none⟩ = some (.int .i64 S) ∧ wx.cell? ⟨w.heap.size, 1, none⟩ = some (.bool pl)) (first | exact HS4.out _ ((Below.refl _ _).drew) | (refine HS4.out _ ?_; (repeat (first | (with_reducible exact Below.refl _ _) | (with_reducible assumption) | (with_reducible refine Below.drew ?_) | (with_reducible refine below_drewN ?_ _) | ((with_reducible refine bel_set ?_ ?_); (focus (first | (simp; done) | (simp; omega) | omega | (simp at *; omega)))) | (with_reducible refine bel_alloc0 ?_) | (with_reducible refine bel_step0 (by assumption) ?_) | ((with_reducible refine bel_alloc ?_ ?_); (focus (first | (simp; done) | (simp; omega) | omega | (simp at *; omega)))) | ((with_reducible refine bel_step (by assumption) ?_ ?_); (focus (first | (simp; done) | (simp; omega) | omega | (simp at *; omega)))))))) (first | (go_at_call 80; first | ((with_reducible refine (D5.out _).mono ?_); rintro e wA ⟨vA, rfl, hoA, hbA⟩; obtain ⟨AA, cA, rfl⟩ := own_shape hoA; have PA : Part.Ok (⟨AA, cA, X1⟩ : Part) wA := part_own hoA rfl) | ((with_reducible refine (D6.out _).mono ?_); rintro e wB ⟨vB, rfl, hoB, hbB⟩; obtain ⟨AB, cB, rfl⟩ := own_shape hoB; have PB : Part.Ok (⟨AB, cB, X2⟩ : Part) wB := part_own hoB rfl) | ((with_reducible refine (D7.out _).mono ?_); rintro e wC ⟨vC, rfl, hoC, hbC⟩; obtain ⟨AC, cC, rfl⟩ := own_shape hoC; have PC : Part.Ok (⟨AC, cC, X3⟩ : Part) wC := part_own hoC rfl)) | (go_at_call 81; (with_reducible refine (D8.out _).mono ?_); rintro e wF ⟨rfl, rfl⟩) | (go_at_call 79; (refine (all_any _ _ 5 [(⟨AM, cM, markB 1⟩ : Part), (⟨AA, cA, X1⟩ : Part), (⟨_, 1, [fl]⟩ : Part), (⟨AB, cB, X2⟩ : Part), (⟨AC, cC, X3⟩ : Part)] rfl (by omega) (hs5 _ _ _ _ _ _ _ _ _ _) (fun p hp => by { rcases List.mem_cons.1 hp with rfl | hp; exact PM.out.step (by (repeat (first | (with_reducible exact Below.refl _ _) | (with_reducible assumption) | (with_reducible refine Below.drew ?_) | (with_reducible refine below_drewN ?_ _) | ((with_reducible refine bel_set ?_ ?_); (focus (first | (simp; done) | (simp; omega) | omega | (simp at *; omega)))) | (with_reducible refine bel_alloc0 ?_) | (with_reducible refine bel_step0 (by assumption) ?_) | ((with_reducible refine bel_alloc ?_ ?_); (focus (first | (simp; done) | (simp; omega) | omega | (simp at *; omega)))) | ((with_reducible refine bel_step (by assumption) ?_ ?_); (focus (first | (simp; done) | (simp; omega) | omega | (simp at *; omega))))))); rcases List.mem_cons.1 hp with rfl | hp; exact PA.step (by (repeat (first | (with_reducible exact Below.refl _ _) | (with_reducible assumption) | (with_reducible refine Below.drew ?_) | (with_reducible refine below_drewN ?_ _) | ((with_reducible refine bel_set ?_ ?_); (focus (first | (simp; done) | (simp; omega) | omega | (simp at *; omega)))) | (with_reducible refine bel_alloc0 ?_) | (with_reducible refine bel_step0 (by assumption) ?_) | ((with_reducible refine bel_alloc ?_ ?_); (focus (first | (simp; done) | (simp; omega) | omega | (simp at *; omega)))) | ((with_reducible refine bel_step (by assumption) ?_ ?_); (focus (first | (simp; done) | (simp; omega) | omega | (simp at *; omega))))))); rcases List.mem_cons.1 hp with rfl | hp; exact Part.Ok.step (part_blk (Blk.made _ _ _)) (by (repeat (first | (with_reducible exact Below.refl _ _) | (with_reducible assumption) | (with_reducible refine Below.drew ?_) | (with_reducible refine below_drewN ?_ _) | ((with_reducible refine bel_set ?_ ?_); (focus (first | (simp; done) | (simp; omega) | omega | (simp at *; omega)))) | (with_reducible refine bel_alloc0 ?_) | (with_reducible refine bel_step0 (by assumption) ?_) | ((with_reducible refine bel_alloc ?_ ?_); (focus (first | (simp; done) | (simp; omega) | omega | (simp at *; omega)))) | ((with_reducible refine bel_step (by assumption) ?_ ?_); (focus (first | (simp; done) | (simp; omega) | omega | (simp at *; omega))))))); rcases List.mem_cons.1 hp with rfl | hp; exact PB.step (by (repeat (first | (with_reducible exact Below.refl _ _) | (with_reducible assumption) | (with_reducible refine Below.drew ?_) | (with_reducible refine below_drewN ?_ _) | ((with_reducible refine bel_set ?_ ?_); (focus (first | (simp; done) | (simp; omega) | omega | (simp at *; omega)))) | (with_reducible refine bel_alloc0 ?_) | (with_reducible refine bel_step0 (by assumption) ?_) | ((with_reducible refine bel_alloc ?_ ?_); (focus (first | (simp; done) | (simp; omega) | omega | (simp at *; omega)))) | ((with_reducible refine bel_step (by assumption) ?_ ?_); (focus (first | (simp; done) | (simp; omega) | omega | (simp at *; omega))))))); rcases List.mem_cons.1 hp with rfl | hp; exact PC.step (by (repeat (first | (with_reducible exact Below.refl _ _) | (with_reducible assumption) | (with_reducible refine Below.drew ?_) | (with_reducible refine below_drewN ?_ _) | ((with_reducible refine bel_set ?_ ?_); (focus (first | (simp; done) | (simp; omega) | omega | (simp at *; omega)))) | (with_reducible refine bel_alloc0 ?_) | (with_reducible refine bel_step0 (by assumption) ?_) | ((with_reducible refine bel_alloc ?_ ?_); (focus (first | (simp; done) | (simp; omega) | omega | (simp at *; omega)))) | ((with_reducible refine bel_step (by assumption) ?_ ?_); (focus (first | (simp; done) | (simp; omega) | omega | (simp at *; omega))))))); cases hp }) (by first | exact Blk.made _ _ _ | exact Blk.made_at _ _ _ (by simp) | exact Blk.drew (Blk.made _ _ _) | exact Blk.drew (Blk.made_at _ _ _ (by simp)))).mono ?_); rintro e w7 ⟨v7, rfl, ho7, hb7⟩; obtain ⟨A7, c7, rfl⟩ := own_shape ho7; have B7 : Below w4.heap.size w4 w7 := bel_step0 hb7 (by (repeat (first | (with_reducible exact Below.refl _ _) | (with_reducible assumption) | (with_reducible refine Below.drew ?_) | (with_reducible refine below_drewN ?_ _) | ((with_reducible refine bel_set ?_ ?_); (focus (first | (simp; done) | (simp; omega) | omega | (simp at *; omega)))) | (with_reducible refine bel_alloc0 ?_) | (with_reducible refine bel_step0 (by assumption) ?_) | ((with_reducible refine bel_alloc ?_ ?_); (focus (first | (simp; done) | (simp; omega) | omega | (simp at *; omega)))) | ((with_reducible refine bel_step (by assumption) ?_ ?_); (focus (first | (simp; done) | (simp; omega) | omega | (simp at *; omega)))))))))
    all_goals
      have HO7 : Hid (w7.ownsRow w4.heap.size 5 1 (.slice A7 h0 c7) h0 (numL .u8 H0)) := by
        have h := own_mono ho7 (show w4.heap.size ≤ _ from Below.size (by (repeat (first | (with_reducible exact Below.refl _ _) | (with_reducible assumption) | (with_reducible refine Below.drew ?_) | (with_reducible refine below_drewN ?_ _) | ((with_reducible refine bel_set ?_ ?_); (focus (first | (simp; done) | (simp; omega) | omega | (simp at *; omega)))) | (with_reducible refine bel_alloc0 ?_) | (with_reducible refine bel_step0 (by assumption) ?_) | ((with_reducible refine bel_alloc ?_ ?_); (focus (first | (simp; done) | (simp; omega) | omega | (simp at *; omega)))) | ((with_reducible refine bel_step (by assumption) ?_ ?_); (focus (first | (simp; done) | (simp; omega) | omega | (simp at *; omega))))))))
        simp only [List.flatMap_cons, List.flatMap_nil] at h
        have e1 : (markB 1 ++ (X1 ++ ([fl] ++ (X2 ++ (X3 ++ []))))).length = h0 := HH0.out.2.symm
        rw [e1, ← HH0.out.1] at h
        exact h
      have HB7 := Lib.hid B7
      go_wp2_with fail
      go_meet
      case rel => go_light; exact ⟨Eq.mp (congrArg (fun z => World.ownsRow w7 w4.heap.size 5 1 (.slice A7 z c7) h0 (numL .u8 H0)) (show h0 = _ by rw [HH0.out.2]; simp; try omega)) HO7.out, HB7.out⟩
  case rest =>
    obtain ⟨HO9, HB9⟩ := hcut
    obtain ⟨A9, c9, rfl⟩ := own_shape HO9.out
    have HT := Lib.hid ht
    have HOK := Lib.hid hok
    have HLO := Lib.hid hlong
    have HBW4 : Hid (Below w.heap.size w w4) := HWA.out _ B4.out
    have HRA : Hid (Row w w.heap.size A n 4 (recF l)) := ha
    have HN := Lib.hid hn
    have hh66 : h0 ≤ 66 := by
      have e := HH0.out.2
      simp [markB] at e
      omega
    obtain ⟨BODY, hBODY⟩ : ∃ BODY, BODY = H0 ++ (framesP pl G l).flatten := ⟨_, rfl⟩
    have HBODY := Lib.hid hBODY
    have HBB8 : Hid (∀ x ∈ BODY, x ≤ 255) := fun x hx => by
      rw [hBODY] at hx
      rcases List.mem_append.1 hx with hx | hx
      · rw [HH0.out.1] at hx; exact HH8.out x hx
      · exact HF8.out x hx
    have HSUM : Hid (G.sum = l.length) := HGS.out
    clear ht hok hlong ha hn hBODY
    go_wp2_with fail
    go_loopw [1, 9, 54] (fun sv ov iv wx => ∃ (k q m' c' : Nat) (A' : Option Addr) (l' : List Rec) (OUT : List Nat), k ≤ g ∧ q ≤ 41200 ∧ m' ≤ 1000 ∧ Hid (q + (bytesB true l').length ≤ 16100 + 25 * k) ∧ m' ≤ c' ∧ iv = .int .i64 k ∧ sv = .slice A' m' c' ∧ Hid (l'.length = m') ∧ Hid (OUT.length = q) ∧ Hid (OUT ++ (framesP pl (G.drop k) l').flatten = BODY) ∧ Hid ((G.drop k).sum = m') ∧ Hid ((∀ r ∈ l', RecOk r) ∧ (∀ r ∈ l', longB r = false) ∧ (bytesB true l').length ≤ 16000) ∧ Hid (Row w w.heap.size A' m' 4 (recF l')) ∧ Hid (wx.ownsRow w4.heap.size 5 1 ov q (numL .u8 OUT)) ∧ Hid (Below w4.heap.size w4 wx)) (fun _ _ iv _ => g - (intOf iv).toNat)
    case atStart => exact ⟨0, h0, n, c, A, l, H0, by omega, by omega, by omega, (by show _ ≤ _; omega), hc, rfl, rfl, HN.out, by show _ = _; rw [HH0.out.1, HH0.out.2], HBODY.out.symm, by show _ = _; rw [List.drop_zero, HSUM.out, HN.out], ⟨HOK.out, HLO.out, hb⟩, HRA.out, HO9.out, HB9.out⟩
    case round =>
      have HBODY9 := HBODY
      clear HO9 HB9 HBODY HRA HN
      obtain ⟨k, q, m', c', A', l', OUT, hkg, hq, hm', hqb, hmc, rfl, rfl, HL, HQ, HF, HSM, HP, HR, HO, HB⟩ := hrel
      have hz := HB.out.size
      by_cases hlt : k < g
      · have hkl : k < G.length := by rw [← HGL.out]; exact hlt
        obtain ⟨m, hm⟩ : ∃ m, m = G[k] := ⟨_, rfl⟩
        have hdr : G.drop k = m :: G.drop (k + 1) := by rw [hm]; exact List.drop_eq_getElem_cons hkl
        have hsm := HSM.out
        have hf := HF.out
        rw [hdr] at hsm hf
        rw [List.sum_cons] at hsm
        rw [framesP, List.flatten_cons] at hf
        have hm1 : 1 ≤ m := HPOS.out m (by rw [hm]; exact List.getElem_mem hkl)
        have HOGx : Hid (wr.ownsRow wa.heap.size 3 1 (.slice AG g cG) g (numL .i64 G)) := own_kept HOG4.out (fun y hy => HB.out.block y (World.ownsRow.lt HOG4.out y hy).2)
        obtain ⟨gb, gc, hAG, hgb, _⟩ := HOGx.out.form (by omega)
        injection hAG with e1 e2 e3
        subst e1 e3
        have cg : wr.cell? ⟨gb, k, none⟩ = some (.int .i64 (m : Nat)) := by
          rw [(Lz.own_cells HOGx.out hlt).1]
          simp [numL, List.getElem?_eq_getElem hkl, hm]
        have hml : m ≤ m' := by omega
        have hp := HP.out
        have ks1 := fun wx => run_cuth' (P := Tryz.prog) (t := 26) (s := 4) Tryz.underlying26 (fun _ => by kernel_rfl) A' m' c' .i64 (m : Int) m rfl (by omega) (row_add0 HR.out (by omega)) wx
        have ks2 := fun wx => run_cut (P := Tryz.prog) (t := 26) (s := 4) Tryz.underlying26 (fun _ => by kernel_rfl) A' m' c' .i64 (m : Int) m rfl hml wx
        have hb3 : (bytesB true (l'.take m)).length ≤ 16000 := Nat.le_trans (bytesB_le true (List.take_sublist m l')) hp.2.2
        have hb8 := bytesB_u8 true (l := l'.take m) (fun r hr => hp.1 r (List.mem_of_mem_take hr))
        have E1 := Lib.hid (fun wx (hx : Below w.heap.size w wx) => bytes_any wx true A' m c' (l'.take m) (by rw [List.length_take, HL.out]; omega) (by omega) (fun r hr => hp.1 r (List.mem_of_mem_take hr)) (fun r hr => hp.2.1 r (List.mem_of_mem_take hr)) (by omega) ((row_take (HR.out.below hx) hml).mono hx.size))
        have E2 := Lib.hid (fun wx A2 c2 (hx : Below w.heap.size w wx) (h : wx.ownsRow w4.heap.size 5 1 (.slice A2 (bytesB true (l'.take m)).length c2) (bytesB true (l'.take m)).length (numL .u8 (bytesB true (l'.take m)))) => write_any wx A2 _ c2 _ pl rfl hb3 (fun e => (own_wf h).1 e) hb8 (HT.out.step hx) (Part.Ok.row (part_own h rfl)))
        have hfm := frame_max pl hb3
        unfold BytesPost at E1
        unfold WPost at E2
        have hqb1 := hqb.out
        have hsp := bytesB_split true l' m
        have HF2 := Lib.hid hf
        have HP2 : Hid ((∀ r ∈ l'.drop m, RecOk r) ∧ (∀ r ∈ l'.drop m, longB r = false) ∧ (bytesB true (l'.drop m)).length ≤ 16000) := ⟨fun r hr => hp.1 r (List.mem_of_mem_drop hr), fun r hr => hp.2.1 r (List.mem_of_mem_drop hr), Nat.le_trans (bytesB_le true (List.drop_sublist m l')) hp.2.2⟩
        have HR2 : Hid (Row w w.heap.size (cutA A' m c' 4) (m' - m) 4 (recF (l'.drop m))) := row_drop HR.out hml hmc
        have HL2 : Hid ((l'.drop m).length = m' - m) := by show _ = _; rw [List.length_drop, HL.out]
        have HSM2 : Hid ((G.drop (k + 1)).sum = m' - m) := by show _ = _; omega
        have hwx : Below w.heap.size w wr := HBW4.out.trans (HB.out.mono HBW4.out.size)
        have HWX := Lib.hid hwx
        have x0 : (0 : Int) ≤ (k : Int) := by omega
        have x1 : (k : Int) < (g : Int) := by omega
        have kp := (HS4.out wr HB.out).2
        generalize bytesB true (l'.take m) = BB at *
        generalize frameB BB pl = FF at *
        obtain ⟨bl, hbl⟩ : ∃ bl, bl = BB.length := ⟨_, rfl⟩
        obtain ⟨fl2, hfl⟩ : ∃ fl2, fl2 = FF.length := ⟨_, rfl⟩
        rw [← hbl] at E1 E2 hfm hsp
        rw [← hfl] at E2 hfm
        have HFL := Lib.hid hfl
        have hq2 : q + fl2 ≤ 41200 := by omega
        have HQB2 : Hid (q + fl2 + (bytesB true (l'.drop m)).length ≤ 16100 + 25 * (k + 1)) := by show _ ≤ _; omega
        clear hkl hm hdr hsm hf HSM HF hp HP HR HL hb8 hwx hbl hfl hb3 hqb hqb1 hsp
        go_upto_region 13 with fail
        go_region_held3 (fun wx => wx.cell? ⟨w.heap.size, 1, none⟩ = some (.bool pl)) (first | exact kp | exact kp2 | exact kp3) (first | (go_at_call 83; (with_reducible refine (E1.out _ (Below.drew HWX.out)).mono ?_); rintro e wA ⟨vA, rfl, hoA, hbA⟩; obtain ⟨AA, cA, rfl⟩ := own_shape hoA; have BA : Below w4.heap.size w4 wA := bel_step0 hbA (Below.drew HB.out); have HOA : wA.ownsRow w4.heap.size 5 1 (.slice AA bl cA) bl (numL .u8 BB) := own_mono hoA (by simpa using hz); have BWA : Below w.heap.size w wA := bel_step0 hbA (Below.drew HWX.out); have kp2 := (HS4.out wA BA).2; have kA := hbA) | (go_at_call 82; (with_reducible refine (E2.out _ _ _ BWA HOA).mono ?_); rintro e wB ⟨vB, rfl, hoB, hbB⟩; obtain ⟨AB, cB, rfl⟩ := own_shape hoB; have BB2 : Below w4.heap.size w4 wB := bel_step0 hbB BA; have kp3 := (HS4.out wB BB2).2))
        all_goals
          have HOx : wA.ownsRow w4.heap.size 5 1 u9 q (numL .u8 OUT) := own_kept (HO.out.drew) (fun y hy => kA.block y (by simpa using (World.ownsRow.lt HO.out y hy).2))
          have HOy : Hid (wB.ownsRow w4.heap.size 5 1 u9 q (numL .u8 OUT)) := own_kept HOx (fun y hy => hbB.block y (World.ownsRow.lt HOx y hy).2)
          have HSy : Hid (Src wB AB fl2 cB 1 (numL .u8 FF)) := src_row7 hoB
          have HBy := Lib.hid BB2
          have hzy := BB2.size
          clear hbA hoA BA HOA BWA kp2 kA hbB hoB BB2 kp3 HOx kp E1 E2
          go_wp2_with (at_builtin; refine wpList_app rfl (.tmp 71) (.tmp 72) 22 rfl w4.heap.size 5 j0 _ 1 1 Tryz.underlying22 hj0 hy0 hy1 hy2 rfl (by decide) _ _ _ (by rfl) HOy.out _ _ _ _ (by rfl) HSy.out (numL_one _ _) (by unfold maxLen; omega) (by omega) hzy ?_; intro v8 w8 hown8 hg8 hat8; have HB8 : Hid (Below w4.heap.size w4 w8) := HBy.out.grown hg8 hzy (fun y hy => (World.ownsRow.lt HOy.out y hy).1); have HO8 : Hid (w8.ownsRow w4.heap.size 5 1 v8 (q + fl2) (numL .u8 (OUT ++ FF))) := (by rw [show numL .u8 (OUT ++ FF) = numL .u8 OUT ++ numL .u8 FF by simp [numL]]; exact hown8); clear hown8 hg8 hat8)
          go_roundw
          case measure => go_light; simp [intOf]; omega
          case rel => go_light; exact ⟨k + 1, q + fl2, m' - m, c' - m, cutA A' m c' 4, l'.drop m, OUT ++ FF, by omega, hq2, by omega, HQB2.out, by omega, by first | rfl | go_num, by first | rfl | trivial, HL2.out, by show _ = _; rw [List.length_append, HQ.out, ← HFL.out], by show _ = _; rw [List.append_assoc]; exact HF2.out, HSM2.out, HP2.out, HR2.out, HO8.out, HB8.out⟩
      · obtain rfl : k = g := by omega
        have hf := HF.out
        rw [List.drop_of_length_le (by rw [← HGL.out]; exact Nat.le_refl _), framesP, List.flatten_nil, List.append_nil] at hf
        subst hf
        obtain ⟨A8, c8, rfl⟩ := own_shape HO.out
        have hql : OUT.length ≤ 41200 := by rw [HQ.out]; exact hq
        have P8 : Hid (Part.Ok (⟨A8, c8, OUT⟩ : Part) wr) := part_own HO.out HQ.out
        have HWX : Hid (Below w.heap.size w wr) := HBW4.out.trans (HB.out.mono HBW4.out.size)
        have E8 := Lib.hid (put_any wr A8 q c8 OUT HQ.out (by omega) (by have h := P8.out.nil; rw [HQ.out] at h; exact h) HBB8.out (HT.out.step HWX.out) (by have h := P8.out.row; simp only [HQ.out] at h; exact h))
        unfold PutPost at E8
        clear HF HSM HP HR HL hqb
        go_wp2_with fail
        refine E8.out.mono ?_
        rintro e w8 ⟨v8, rfl, ho8, hb8⟩
        have HO8 := Lib.hid (own_mono ho8 HWX.out.size)
        have HB8 := Lib.hid (bel_step0 hb8 HWX.out)
        clear ho8 hb8 E8
        go_wp2_with fail
        go_ret2
        refine ⟨_, rfl, ?_, HB8.out⟩
        have h := HO8.out
        have e : PK = OUT ++ tailN (sumN OUT) := by rw [HPK.out, ← HH0.out.1, ← HBODY9.out]
        have e2 : (OUT ++ tailN (sumN OUT)).length = OUT.length + 4 := by rw [List.length_append]; rfl
        rw [e, e2, HQ.out]
        rw [HQ.out] at h
        exact h
end Go.Proofs.YtmgjgkdbagbleaaGreatDoor.One
namespace Go.Proofs.YtmgjgkdbagbleaaGreatDoor.One
open Go.RowKit Go.Proofs.YtmgjgkdbagbleaaGreatDoor.Mem Go.Proofs.YtmgjgkdbagbleaaGreatDoor.Own Go.Proofs.YtmgjgkdbagbleaaGreatDoor.Canon Go.Proofs.YtmgjgkdbagbleaaGreatDoor.NumPut Go.Proofs.YtmgjgkdbagbleaaGreatDoor.Crc
open Go.Proofs.YtmgjgkdbagbleaaGreatDoor.Recs Go.Proofs.YtmgjgkdbagbleaaGreatDoor.Opts
open Go.Proofs.YtmgjgkdbagbleaaGreatDoor.Block (frameB WPost part_own part_blk)
theorem own_grown {w w' : World} {base base' s s' n n' : Nat} {e e' : TypeId} {v v' : Value} {xs xs' : List Value} (h : w.ownsRow base e s v n xs) (ho : w.ownsRow base' e' s' v' n' xs') (hne : e ≠ e') (hg : w.grownBy w' v'.ownBlock) : w'.ownsRow base e s v n xs :=
  own_kept h (fun y hy => hg.block y (World.ownsRow.lt h y hy).2 (fun e => by
    rcases own_apart h ho hne with h0 | h0
    · rw [h0] at hy; cases hy
    · exact h0 (hy.trans e)))
end Go.Proofs.YtmgjgkdbagbleaaGreatDoor.One
namespace Go.Proofs.YtmgjgkdbagbleaaGreatDoor.One
open Go.RowKit Go.Proofs.YtmgjgkdbagbleaaGreatDoor.Mem Go.Proofs.YtmgjgkdbagbleaaGreatDoor.Own Go.Proofs.YtmgjgkdbagbleaaGreatDoor.Canon Go.Proofs.YtmgjgkdbagbleaaGreatDoor.NumPut Go.Proofs.YtmgjgkdbagbleaaGreatDoor.Crc
open Go.Proofs.YtmgjgkdbagbleaaGreatDoor.Recs Go.Proofs.YtmgjgkdbagbleaaGreatDoor.Opts
open Go.Proofs.YtmgjgkdbagbleaaGreatDoor.Block (frameB part_own)
end Go.Proofs.YtmgjgkdbagbleaaGreatDoor.One
namespace Go.Proofs.YtmgjgkdbagbleaaGreatDoor.One
open Go.RowKit Go.Proofs.YtmgjgkdbagbleaaGreatDoor.Mem Go.Proofs.YtmgjgkdbagbleaaGreatDoor.Own Go.Proofs.YtmgjgkdbagbleaaGreatDoor.Canon Go.Proofs.YtmgjgkdbagbleaaGreatDoor.NumPut Go.Proofs.YtmgjgkdbagbleaaGreatDoor.Crc
open Go.Proofs.YtmgjgkdbagbleaaGreatDoor.Recs Go.Proofs.YtmgjgkdbagbleaaGreatDoor.Opts
open Go.Proofs.YtmgjgkdbagbleaaGreatDoor.Block (frameB part_own)
def packE (o : Opt) (l : List Rec) : Int := if optE o ≠ 0 then optE o else if chkE l ≠ 0 then chkE l else 0
def packR (o : Opt) (l : List Rec) : List Nat := if packE o l = 0 then packB o l else []
def PacksPost (o : Opt) (l : List Rec) (w : World) (e : Ending) (w' : World) : Prop :=
  ∃ v, e = .returned (.tuple #[v, .int .i64 (packE o l)]) ∧ w'.ownsRow w.heap.size 5 1 v (packR o l).length (numL .u8 (packR o l)) ∧ Below w.heap.size w w'
theorem chkE_six {l : List Rec} (h : chkE l ≠ 0) : chkE l = 6 := by
  unfold chkE at h ⊢
  split
  · rfl
  · split
    · rfl
    · split
      · rfl
      · rename_i h1 h2 h3
        rw [if_neg h1, if_neg h2, if_neg h3] at h
        exact absurd rfl h
theorem optE_nine {o : Opt} (h : optE o ≠ 0) : optE o = 9 := by
  unfold optE at h ⊢
  split
  · rename_i h1
    rw [if_pos h1] at h
    exact absurd rfl h
  · rfl
set_option maxHeartbeats 1000000 in
set_option maxRecDepth 100000 in
theorem packs_any (w : World) (o : Opt) (A : Option Addr) (n c : Nat) (l : List Rec) (hn : l.length = n) (hN : n ≤ 9223372036854775807) (hc : n ≤ c) (hok : ∀ r ∈ l, RecOk r) (hcd : chkE l = 0 → n ≤ 1000 ∧ (bytesB true l).length ≤ 16000) (ht : TabAt w) (ha : Row w w.heap.size A n 4 (recF l)) :
    Calls Tryz.prog 23 #[o.val, .slice A n c] w (PacksPost o l w) := by
  by_cases ho : optE o = 0
  · by_cases hk : chkE l = 0
    · obtain ⟨h1, h2⟩ := hcd hk
      have hE : packE o l = 0 := by unfold packE; rw [if_neg (by simp [ho]), if_neg (by simp [hk])]
      have hR : packR o l = packB o l := if_pos hE
      unfold PacksPost
      rw [hE, hR]
      exact pack_any w o A n c l ho hn h1 hc hok hk h2 ht ha
    · have h6 := chkE_six hk
      have hE : packE o l = 6 := by unfold packE; rw [if_neg (by simp [ho]), if_pos hk, h6]
      have hR : packR o l = [] := if_neg (by rw [hE]; simp)
      have D1 := Lib.hid (fun wx => ocheck_any wx o)
      rw [ho] at D1
      have D2 := Lib.hid (fun wx (hx : Below w.heap.size w wx) => rcheck_any wx A n c l hn hN ((ha.below hx).mono hx.size))
      rw [h6] at D2
      unfold PacksPost
      rw [hE, hR]
      unfold Opt.val at D1 ⊢
      clear hcd ht ha hok hn hk h6 hE hR ho
      go_enter Tryz.func23, Tryz.ntmps23
      go_wp2_with fail
      refine (D1.out _).mono ?_
      rintro e w1 ⟨rfl, hb1⟩
      have B1 : Hid (Below w.heap.size w w1) := bel_step0 hb1 (bel_alloc0 (Below.refl _ _))
      have E2 := Lib.hid (D2.out w1 B1.out)
      clear hb1 D1 D2
      go_wp2_with fail
      refine E2.out.mono ?_
      rintro e w2 ⟨rfl, hb2⟩
      have B2 : Hid (Below w.heap.size w w2) := bel_step0 hb2 B1.out
      clear hb2 E2 B1
      go_wp2_with fail
      go_ret2
      exact ⟨_, rfl, World.ownsRow_nil _ _ _ _, B2.out⟩
  · have h9 := optE_nine ho
    have hE : packE o l = 9 := by unfold packE; rw [if_pos ho, h9]
    have hR : packR o l = [] := if_neg (by rw [hE]; simp)
    have D1 := Lib.hid (fun wx => ocheck_any wx o)
    rw [h9] at D1
    unfold PacksPost
    rw [hE, hR]
    unfold Opt.val at D1 ⊢
    clear hcd ht ha hok hn hE hR ho h9
    go_enter Tryz.func23, Tryz.ntmps23
    go_wp2_with fail
    refine (D1.out _).mono ?_
    rintro e w1 ⟨rfl, hb1⟩
    have B1 : Hid (Below w.heap.size w w1) := bel_step0 hb1 (bel_alloc0 (Below.refl _ _))
    clear hb1 D1
    go_wp2_with fail
    go_ret2
    exact ⟨_, rfl, World.ownsRow_nil _ _ _ _, B1.out⟩
theorem bytes_great {l : List Rec} {n : Nat} (hn : l.length = n) (hok : ∀ r ∈ l, RecOk r) (hk : chkE l = 0) (h1 : (n : Int) ≤ 60) (h2 : weight l ≤ 4000) : (bytesB true l).length ≤ 16000 := by
  have := bytesB_len true hok (chkE_ok hk)
  rw [hn] at this
  omega
def exO : Opt := ⟨16, false, 0, 0, 0, 0⟩
theorem ex_body : bodyO exO [] = [70, 73, 82, 75, 1, 16, 0, 0, 0] := by
  unfold bodyO headO countsO
  simp [lensB, groupsP, framesP, markB, flagN, exO, numB_low]
theorem packB_u8 {o : Opt} {l : List Rec} (hok : ∀ r ∈ l, RecOk r) : ∀ x ∈ packB o l, x ≤ 255 := by
  intro x hx
  unfold packB at hx
  rcases List.mem_append.1 hx with hx | hx
  · unfold bodyO headO at hx
    rcases List.mem_append.1 hx with hx | hx
    · exact head_u8 (by unfold flagN; split <;> omega) x hx
    · exact frames_u8 _ _ _ hok x hx
  · have := tail_bytes _ x hx; omega
set_option maxHeartbeats 1000000 in
set_option maxRecDepth 100000 in
theorem alive21 (w : World) (ht : TabAt w) : Calls Tryz.prog 18 #[] w fun e w' => e = .returned (.bool true) ∧ Below w.heap.size w w' := by
  have D1 := Lib.hid (pack_any w exO none 0 0 [] (by decide) rfl (by omega) (Nat.le_refl _) (by simp) (by decide) (by simp [bytesB]) ht Row.zero)
  unfold PackPost packB at D1
  rw [ex_body] at D1
  unfold Opt.val exO at D1
  simp only at D1
  have D2 : Hid (∀ wx : World, Calls Tryz.prog 59 #[.slice (some ⟨wx.heap.size, 0, none⟩) 9 9] (wx.alloc (.cells #[.int .u8 70, .int .u8 73, .int .u8 82, .int .u8 75, .int .u8 1, .int .u8 16, .int .u8 0, .int .u8 0, .int .u8 0] 5)) (PutPost [70, 73, 82, 75, 1, 16, 0, 0, 0] (wx.alloc (.cells #[.int .u8 70, .int .u8 73, .int .u8 82, .int .u8 75, .int .u8 1, .int .u8 16, .int .u8 0, .int .u8 0, .int .u8 0] 5)))) := fun wx => by
    have hk3 : Blk (wx.alloc (.cells #[.int .u8 70, .int .u8 73, .int .u8 82, .int .u8 75, .int .u8 1, .int .u8 16, .int .u8 0, .int .u8 0, .int .u8 0] 5)) wx.heap.size 5 #[.int .u8 70, .int .u8 73, .int .u8 82, .int .u8 75, .int .u8 1, .int .u8 16, .int .u8 0, .int .u8 0, .int .u8 0] := Blk.made _ _ _
    exact rput_any _ (some ⟨wx.heap.size, 0, none⟩) 9 9 [70, 73, 82, 75, 1, 16, 0, 0, 0] rfl (by omega) (fun e => by cases e) (by decide) (Row.of_blk hk3 hk3.lt fun i j hi hj => by
      obtain rfl : j = 0 := by omega
      match i, hi with
      | 0, _ => rfl
      | 1, _ => rfl
      | 2, _ => rfl
      | 3, _ => rfl
      | 4, _ => rfl
      | 5, _ => rfl
      | 6, _ => rfl
      | 7, _ => rfl
      | 8, _ => rfl)
  unfold PutPost at D2
  have hl : ([70, 73, 82, 75, 1, 16, 0, 0, 0] ++ tailN (sumN [70, 73, 82, 75, 1, 16, 0, 0, 0])).length = 13 := rfl
  have hF8 : ∀ x ∈ [70, 73, 82, 75, 1, 16, 0, 0, 0] ++ tailN (sumN [70, 73, 82, 75, 1, 16, 0, 0, 0]), x ≤ 255 := fun x hx => by
    rcases List.mem_append.1 hx with h | h
    · revert x; decide
    · have := tail_bytes _ x h; omega
  rw [hl] at D1
  have e9 : ([70, 73, 82, 75, 1, 16, 0, 0, 0] : List Nat).length + 4 = 13 := rfl
  rw [e9] at D2
  generalize [70, 73, 82, 75, 1, 16, 0, 0, 0] ++ tailN (sumN [70, 73, 82, 75, 1, 16, 0, 0, 0]) = F at *
  have DS : Hid (∀ (wx wa : World) Ax cx Ay cy, wa.ownsRow w.heap.size 5 1 (.slice Ax 13 cx) 13 (numL .u8 F) → Below wa.heap.size wa wx → (∃ b, wx.ownsRow b 5 1 (.slice Ay 13 cy) 13 (numL .u8 F)) → Calls Tryz.prog 29 #[.slice Ax 13 cx, .slice Ay 13 cy] wx fun e w' => e = .returned (.bool true) ∧ wx = w') := fun wx wa Ax cx Ay cy hx hb ⟨b, hy⟩ => by
    have P := (part_own hx hl).step hb
    have Q := part_own hy hl
    have p1 := P.row
    have q1 := Q.row
    simp only [hl] at p1 q1
    refine (Huff.same_any wx Ax Ay 13 13 cx cy F F hl hl (fun e => hl.symm.trans (P.nil e).1) (fun e => hl.symm.trans (Q.nil e).1) hF8 hF8 p1 q1).mono ?_
    rintro e w' ⟨rfl, rfl⟩
    exact ⟨by simp, rfl⟩
  clear hl hF8 e9 ht
  go_enter Tryz.func18, Tryz.ntmps18
  go_wp2_with fail
  refine D1.out.mono ?_
  rintro e w1 ⟨v1, rfl, ho1, hb1⟩
  obtain ⟨A1, c1, rfl⟩ := own_shape ho1
  have HO1 := Lib.hid ho1
  have HB1 := Lib.hid hb1
  have E2 := Lib.hid (D2.out w1)
  clear ho1 hb1 D1 D2
  go_wp2_with fail
  refine E2.out.mono ?_
  rintro e w2 ⟨v2, rfl, ho2, hb2⟩
  obtain ⟨A2, c2, rfl⟩ := own_shape ho2
  have HB2 : Hid (Below w1.heap.size w1 w2) := bel_step0 hb2 (bel_alloc0 (Below.refl _ _))
  have E3 := Lib.hid (DS.out w2 w1 A1 c1 A2 c2 HO1.out HB2.out ⟨_, ho2⟩)
  clear ho2 hb2 E2 DS HO1
  go_wp2_with fail
  refine E3.out.mono ?_
  rintro e w3 ⟨rfl, rfl⟩
  go_wp2_with fail
  go_ret
  exact ⟨rfl, bel_step0 HB2.out HB1.out⟩
end Go.Proofs.YtmgjgkdbagbleaaGreatDoor.One
namespace Go.Proofs.YtmgjgkdbagbleaaGreatDoor.Nums
open Go.RowKit Go.Proofs.YtmgjgkdbagbleaaGreatDoor.Mem Go.Proofs.YtmgjgkdbagbleaaGreatDoor.Own Go.Proofs.YtmgjgkdbagbleaaGreatDoor.Canon Go.Proofs.YtmgjgkdbagbleaaGreatDoor.NumPut
open Go.Proofs.YtmgjgkdbagbleaaGreatDoor.Crc (row_num_drop row_num_take run_cuth')
def txtP (most : Nat) (ls : List Nat) : List Nat × Nat × Int :=
  if (limP most ls).2.2 ≠ 0 then ([], 0, (limP most ls).2.2) else if ls.length - (limP most ls).2.1 < (limP most ls).1 then ([], 0, 1) else ((ls.drop (limP most ls).2.1).take (limP most ls).1, (limP most ls).2.1 + (limP most ls).1, 0)
theorem txtP_spec (most : Nat) (ls : List Nat) (h8 : ∀ c ∈ ls, c ≤ 255) : (txtP most ls).1.length ≤ most ∧ (txtP most ls).2.1 ≤ ls.length ∧ ((txtP most ls).2.2 = 0 → 1 ≤ (txtP most ls).2.1) ∧ ((txtP most ls).2.2 ≠ 0 → (txtP most ls).1 = [] ∧ (txtP most ls).2.1 = 0) ∧ (∀ x ∈ (txtP most ls).1, x ≤ 255) ∧ 0 ≤ (txtP most ls).2.2 ∧ (txtP most ls).2.2 ≤ 6 := by
  have h := limP_spec most ls h8
  unfold txtP
  split
  · rename_i he
    exact ⟨by simp, by simp, fun h0 => absurd h0 he, fun _ => ⟨rfl, rfl⟩, fun x hx => by simp at hx, h.2.2.2.2.1, h.2.2.2.2.2⟩
  · split
    · exact ⟨by simp, by simp, fun h0 => absurd h0 (by decide), fun _ => ⟨rfl, rfl⟩, fun x hx => by simp at hx, by simp, by simp⟩
    · rename_i he hl
      have h1 := h.2.2.1 (by omega)
      exact ⟨by rw [List.length_take]; have := h.1; omega, by have := h.2.1; simp only; omega, fun _ => by simp only; omega, fun h0 => absurd rfl h0, fun x hx => h8 x (List.mem_of_mem_drop (List.mem_of_mem_take hx)), by simp, by simp⟩
def textV (most : Nat) (bs : List Nat) (at_ : Nat) (er : Int) : List Nat := if er ≠ 0 then [] else (txtP most (bs.drop at_)).1
def textA (most : Nat) (bs : List Nat) (at_ : Nat) (er : Int) : Nat := if er ≠ 0 then at_ else at_ + (txtP most (bs.drop at_)).2.1
def textE (most : Nat) (bs : List Nat) (at_ : Nat) (er : Int) : Int := if er ≠ 0 then er else (txtP most (bs.drop at_)).2.2
set_option maxHeartbeats 1000000 in
set_option maxRecDepth 100000 in
theorem textstep_any (w : World) (g base mb ob : Nat) (bs : List Nat) (A : Option Addr) (c at_ most : Nat) (hle : bs.length ≤ 100000) (h8 : ∀ x ∈ bs, x ≤ 255) (hmost : most ≤ 1000000000) (h : Cur w g base bs A c at_ 0) (hmb : Blk w mb 3 #[.int .i64 most]) (hob : Blk w ob 9 #[.string ⟨#[]⟩]) :
    Calls Tryz.prog 297 #[.slice (cutA A at_ c 1) (bs.length - at_) (c - at_), .pointer (some ⟨mb, 0, none⟩), .pointer (some ⟨ob, 0, none⟩)] w fun e w' => ∃ (k : Nat) (e2 : Int), e = .returned (.tuple #[.int .i64 k, .int .i64 e2]) ∧ k ≤ 100000 ∧ Cur w' g base bs A c at_ 0 ∧
      (Kept (fun x => x < w.heap.size ∧ x ≠ ob) w w' ∧ k = (txtP most (bs.drop at_)).2.1 ∧ e2 = (txtP most (bs.drop at_)).2.2 ∧ Blk w' ob 9 #[.string (strN (txtP most (bs.drop at_)).1)]) := by
  have d0 := hmb.cell 0
  have f1 := hob.frozen 0
  have d1 := hob.cell 0
  simp only [List.getElem?_toArray, List.getElem?_cons_zero] at d0 d1
  have hwf := own_wf h.own
  have hat := h.le
  have hrow := row_num_drop (own_row h.own) h.le hwf.2
  have h8' : ∀ x ∈ bs.drop at_, x ≤ 255 := fun x hx => h8 x (List.mem_of_mem_drop hx)
  have D := limited_any w (cutA A at_ c 1) (bs.length - at_) (c - at_) (bs.drop at_) most hmost (by rw [List.length_drop]) (by omega) h8' hrow
  have hsp := limP_spec most (bs.drop at_) h8'
  rw [List.length_drop] at hsp
  have hmm : bs.length - at_ ≤ 100000 := by omega
  have hmc : bs.length - at_ ≤ c - at_ := by have := hwf.2; omega
  unfold txtP
  rw [show (bs.drop at_).length = bs.length - at_ from List.length_drop]
  have hll : (bs.drop at_).length = bs.length - at_ := List.length_drop
  have hne1 := Blk.apart hob h.blk (by decide)
  have hmob : mb ≠ ob := by
    intro e
    subst e
    rw [d0] at d1
    cases d1
  have H := Lib.hid h
  have HO := Lib.hid hob
  generalize bs.drop at_ = L at *
  generalize bs.length - at_ = m at *
  generalize cutA A at_ c 1 = A1 at *
  generalize c - at_ = cc at *
  generalize hRR : limP most L = R at *
  have HR := Lib.hid hrow
  have HL := Lib.hid hll
  have D := Lib.hid D
  have hR1 := hsp.1
  have hR2 := hsp.2.1
  have hR5 := hsp.2.2.2.2.1
  have hR6 := hsp.2.2.2.2.2
  clear hrow h8' h hob hmb hwf hll hRR hsp hat hle h8
  obtain ⟨x, n, er⟩ := R
  simp only at *
  by_cases he : er = 0
  · subst he
    rw [if_neg (by simp)]
    have sub1 : IntKind.i64.wrap ((m : Int) - (n : Int)) = ((m - n : Nat) : Int) := by rw [IntWalk.i64_in _ (by omega)]; omega
    by_cases hlt : m - n < x
    · rw [if_pos hlt]
      have g1 : decide (((m - n : Nat) : Int) < (x : Int)) = true := by simp; omega
      have g2 : decide (m - n < x) = true := by simp; omega
      clear hlt
      go_enter Tryz.func297, Tryz.ntmps297
      go_wp2_with fail
      refine D.out.mono ?_
      rintro e w1 ⟨rfl, rfl⟩
      go_wp2_with fail
      go_ret2
      exact ⟨0, 1, rfl, by omega, H.out, Kept.refl _ _, rfl, rfl, HO.out⟩
    · rw [if_neg hlt]
      have g1 : decide (((m - n : Nat) : Int) < (x : Int)) = false := by simp; omega
      have g2 : decide (m - n < x) = false := by simp; omega
      have s2 : IntKind.i64.wrap ((n : Int) + (x : Int)) = ((n : Int) + (x : Int)) := by rw [IntWalk.i64_in _ (by omega)]
      have ks := fun wx => run_cut2 (P := Tryz.prog) (t := 22) (s := 1) Tryz.underlying22 (fun _ => by kernel_rfl) A1 m cc .i64 .i64 (n : Int) ((n : Int) + (x : Int)) n (n + x) rfl (by omega) (by omega) (by omega) wx
      rw [Nat.add_sub_cancel_left] at ks
      have hLL : ((L.drop n).take x).length = x := by rw [List.length_take, List.length_drop, HL.out]; omega
      have HRC : Hid (∀ wx, Below w.heap.size w wx → (convert 22 9 (.slice (cutA A1 n cc 1) x (cc - n))).run Tryz.prog wx = .ok (.string (strN ((L.drop n).take x))) wx) := fun wx hb =>
        run_str ((HR.out.below hb).cut n x (by omega) hmc (fun i j hi hj => by
          obtain rfl : j = 0 := by omega
          simp only [numF, List.getD_eq_getElem?_getD, List.getElem?_take, List.getElem?_drop]
          rw [if_pos hi])) hLL
      have hnx : n + x ≤ 100000 := by omega
      generalize (L.drop n).take x = T at *
      have cv := HRC.out w (Below.refl _ _)
      have cv2 := HRC.out w.drew (by (repeat (first | (with_reducible exact Below.refl _ _) | (with_reducible assumption) | (with_reducible refine Below.drew ?_) | (with_reducible refine below_drewN ?_ _) | ((with_reducible refine bel_set ?_ ?_); (focus (first | (simp; done) | (simp; omega) | omega | (simp at *; omega)))) | (with_reducible refine bel_alloc0 ?_) | (with_reducible refine bel_step0 (by assumption) ?_) | ((with_reducible refine bel_alloc ?_ ?_); (focus (first | (simp; done) | (simp; omega) | omega | (simp at *; omega)))) | ((with_reducible refine bel_step (by assumption) ?_ ?_); (focus (first | (simp; done) | (simp; omega) | omega | (simp at *; omega)))))))
      clear hlt HR HL
      go_enter Tryz.func297, Tryz.ntmps297
      go_wp2_with fail
      refine D.out.mono ?_
      rintro e w1 ⟨rfl, rfl⟩
      go_wp2_with fail
      go_ret2
      refine ⟨n + x, 0, rfl, hnx, ?_, (Kept.refl _ _).set (fun h => h.2 rfl) _, rfl, rfl, HO.out.set 0 _⟩
      exact ⟨H.out.blk.far (fun e => hne1 e.symm) _, set_own H.out.own (own_blk H.out.own HO.out (by decide)) _, H.out.le, H.out.lo⟩
  · rw [if_pos he]
    have g1 : (er != 0) = true := by simpa using he
    clear he HR HL
    go_enter Tryz.func297, Tryz.ntmps297
    go_wp2_with fail
    refine D.out.mono ?_
    rintro e w1 ⟨rfl, rfl⟩
    go_wp2_with fail
    go_ret2
    exact ⟨0, er, rfl, by omega, H.out, Kept.refl _ _, rfl, rfl, HO.out⟩
set_option maxRecDepth 100000 in
theorem ctext_any (w : World) (g base : Nat) (bs : List Nat) (A : Option Addr) (c at_ : Nat) (er : Int) (most : Nat) (hle : bs.length ≤ 100000) (h8 : ∀ x ∈ bs, x ≤ 255) (hmost : most ≤ 1000000000) (h : Cur w g base bs A c at_ er) :
    Calls Tryz.prog 267 #[.pointer (some ⟨g, 0, none⟩), .int .i64 most] w fun e w' => e = .returned (.string (strN (textV most bs at_ er))) ∧ Cur w' g base bs A c (textA most bs at_ er) (textE most bs at_ er) ∧ Kept (Others g w) w w' := by
  have hgl := h.blk.lt
  have h2 : Cur ((w.alloc (.cells #[.int .i64 most] 3)).alloc (.cells #[.string ⟨#[]⟩] 9)) g base bs A c at_ er := (h.step (bel_alloc0 (Below.refl _ _))).step (bel_alloc0 (Below.refl _ _))
  have hnb : Blk ((w.alloc (.cells #[.int .i64 most] 3)).alloc (.cells #[.string ⟨#[]⟩] 9)) w.heap.size 3 #[.int .i64 most] := (Blk.made _ _ _).alloc _
  have hob : Blk ((w.alloc (.cells #[.int .i64 most] 3)).alloc (.cells #[.string ⟨#[]⟩] 9)) (w.heap.size + 1) 9 #[.string ⟨#[]⟩] := Blk.made_at _ _ _ (by simp)
  have hk2 : Kept (fun x => x < w.heap.size ∧ x ≠ g) w ((w.alloc (.cells #[.int .i64 most] 3)).alloc (.cells #[.string ⟨#[]⟩] 9)) := Kept.of_below (by (repeat (first | (with_reducible exact Below.refl _ _) | (with_reducible assumption) | (with_reducible refine Below.drew ?_) | (with_reducible refine below_drewN ?_ _) | ((with_reducible refine bel_set ?_ ?_); (focus (first | (simp; done) | (simp; omega) | omega | (simp at *; omega)))) | (with_reducible refine bel_alloc0 ?_) | (with_reducible refine bel_step0 (by assumption) ?_) | ((with_reducible refine bel_alloc ?_ ?_); (focus (first | (simp; done) | (simp; omega) | omega | (simp at *; omega)))) | ((with_reducible refine bel_step (by assumption) ?_ ?_); (focus (first | (simp; done) | (simp; omega) | omega | (simp at *; omega)))))) : Below w.heap.size w _) (fun x hx => hx.1)
  have hat := h.le
  have hsz : ((w.alloc (.cells #[.int .i64 most] 3)).alloc (.cells #[.string ⟨#[]⟩] 9)).heap.size = w.heap.size + 2 := by simp
  unfold Others
  by_cases he : er = 0
  · subst he
    have hKf : ∀ args wx, (callFunc 297 args).run Tryz.prog wx = .ok (.enter 297 args) wx := by
      intro args wx; simp [callFunc, go_sem, Tryz.func297]; rfl
    have D := fun w2 (hc2 : Cur w2 g base bs A c at_ 0) (hnb : Blk w2 w.heap.size 3 #[.int .i64 most]) (hob : Blk w2 (w.heap.size + 1) 9 #[.string ⟨#[]⟩]) => read_ok w2 g base bs A c at_ hc2 hle 297 #[.pointer (some ⟨w.heap.size, 0, none⟩), .pointer (some ⟨w.heap.size + 1, 0, none⟩)]
      (fun k e2 w' => Kept (fun x => x < w2.heap.size ∧ x ≠ w.heap.size + 1) w2 w' ∧ k = (txtP most (bs.drop at_)).2.1 ∧ e2 = (txtP most (bs.drop at_)).2.2 ∧ Blk w' (w.heap.size + 1) 9 #[.string (strN (txtP most (bs.drop at_)).1)]) hKf
      (fun q => (textstep_any (w2.drewN q) g base w.heap.size (w.heap.size + 1) bs A c at_ most hle h8 hmost (hc2.drewN q) (hnb.drewN q) (hob.drewN q)).mono fun e w' ⟨k, e2, h1, h2, h3, h4⟩ => ⟨k, e2, h1, h2, h3, ⟨⟨h4.1.os, h4.1.tape, h4.1.output, h4.1.size, h4.1.block⟩, h4.2⟩⟩)
    have D := Lib.hid (D _ h2 hnb hob)
    have h8' : ∀ x ∈ bs.drop at_, x ≤ 255 := fun x hx => h8 x (List.mem_of_mem_drop hx)
    have hsp := txtP_spec most (bs.drop at_) h8'
    rw [List.length_drop] at hsp
    have eV : textV most bs at_ 0 = (txtP most (bs.drop at_)).1 := if_neg (by simp)
    have eA : textA most bs at_ 0 = at_ + (txtP most (bs.drop at_)).2.1 := if_neg (by simp)
    have eE : textE most bs at_ 0 = (txtP most (bs.drop at_)).2.2 := if_neg (by simp)
    rw [eV, eA, eE]
    generalize txtP most (bs.drop at_) = R at *
    have HK := Lib.hid hk2
    have hgo : w.heap.size + 1 ≠ g := by omega
    have HSP := Lib.hid hsp
    clear hKf h2 hnb hob hk2 h8' hsp eV eA eE
    by_cases hR : R.2.2 = 0
    · have hfit : at_ + R.2.1 ≤ bs.length := by have := HSP.out.2.1; omega
      go_enter Tryz.func267, Tryz.ntmps267
      go_wp2_with fail
      refine D.out.mono ?_
      rintro e w4 ⟨k, e2, w3, ⟨hk3, hkk, hee, hblk⟩, hc3, hcase⟩
      rcases hcase with ⟨h0, _, _⟩ | ⟨_, rfl, rfl⟩
      · exact absurd (hee.trans hR) h0
      · have HK3 : Hid (Kept (fun x => x < w.heap.size ∧ x ≠ g) w w3) := HK.out.trans ⟨hk3.os, hk3.tape, hk3.output, hk3.size, fun x hx => hk3.block x ⟨by have := hx.1; rw [hsz]; omega, by have := hx.1; omega⟩⟩
        have hB := hblk.far (fun e => hgo e) (p := ⟨g, 1, none⟩) (.int .i64 (at_ + k : Nat))
        have d0 := hB.cell 0
        simp only [List.getElem?_toArray, List.getElem?_cons_zero] at d0
        have HC := Lib.hid (hc3.setAt (at_ + k) (by omega))
        rw [hkk] at HC
        have HK4 : Hid (Kept (fun x => x < w.heap.size ∧ x ≠ g) w (w3.setCell ⟨g, 1, none⟩ (.int .i64 (at_ + k : Nat)))) := HK3.out.set (fun h => h.2 rfl) _
        rw [← hkk] at HC
        have HC2 : Hid (Cur (w3.setCell ⟨g, 1, none⟩ (.int .i64 (at_ + k : Nat))) g base bs A c (at_ + R.2.1) R.2.2) := by rw [hR, ← hkk]; exact HC.out
        generalize w3.setCell ⟨g, 1, none⟩ (.int .i64 (at_ + k : Nat)) = w5 at *
        clear hB hblk hc3 hk3 D HK3 HK hkk hee HC hR
        go_wp2_with fail
        go_ret
        exact ⟨rfl, HC2.out, HK4.out⟩
    · have hz := HSP.out.2.2.2.1 hR
      go_enter Tryz.func267, Tryz.ntmps267
      go_wp2_with fail
      refine D.out.mono ?_
      rintro e w4 ⟨k, e2, w3, ⟨hk3, hkk, hee, hblk⟩, hc3, hcase⟩
      rcases hcase with ⟨_, rfl, rfl⟩ | ⟨h0, _, _⟩
      · have HK3 : Hid (Kept (fun x => x < w.heap.size ∧ x ≠ g) w w3) := HK.out.trans ⟨hk3.os, hk3.tape, hk3.output, hk3.size, fun x hx => hk3.block x ⟨by have := hx.1; rw [hsz]; omega, by have := hx.1; omega⟩⟩
        have HC2 : Hid (Cur (w3.setCell ⟨g, 2, none⟩ (.int .i64 e2)) g base bs A c (at_ + R.2.1) R.2.2) := by rw [hz.2, ← hee]; exact hc3.setErr e2
        have HK4 : Hid (Kept (fun x => x < w.heap.size ∧ x ≠ g) w (w3.setCell ⟨g, 2, none⟩ (.int .i64 e2))) := HK3.out.set (fun h => h.2 rfl) _
        have hB := hblk.far (fun e => hgo e) (p := ⟨g, 2, none⟩) (.int .i64 e2)
        have d0 := hB.cell 0
        simp only [List.getElem?_toArray, List.getElem?_cons_zero] at d0
        generalize w3.setCell ⟨g, 2, none⟩ (.int .i64 e2) = w5 at *
        clear hB hblk hc3 hk3 D HK3 HK hkk hee hR hz
        go_wp2_with fail
        go_ret
        exact ⟨rfl, HC2.out, HK4.out⟩
      · exact absurd (hee.symm.trans h0) hR
  · have D := Lib.hid (read_err _ g base bs A c at_ er h2 he (.func (.func 297) #[] #[.pointer (some ⟨w.heap.size, 0, none⟩), .pointer (some ⟨w.heap.size + 1, 0, none⟩)]))
    have eV : textV most bs at_ er = [] := if_pos he
    have eA : textA most bs at_ er = at_ := if_pos he
    have eE : textE most bs at_ er = er := if_pos he
    rw [eV, eA, eE]
    have HK := Lib.hid hk2
    have HC := Lib.hid h2
    clear h2 hnb hob hk2 he eV eA eE
    go_enter Tryz.func267, Tryz.ntmps267
    go_wp2_with fail
    refine D.out.mono ?_
    rintro e w4 ⟨rfl, rfl⟩
    go_wp2_with fail
    go_ret
    exact ⟨rfl, HC.out, HK.out⟩
end Go.Proofs.YtmgjgkdbagbleaaGreatDoor.Nums
namespace Go.Proofs.YtmgjgkdbagbleaaGreatDoor.Nums
open Go.RowKit Go.Proofs.YtmgjgkdbagbleaaGreatDoor.Mem Go.Proofs.YtmgjgkdbagbleaaGreatDoor.Own Go.Proofs.YtmgjgkdbagbleaaGreatDoor.Canon Go.Proofs.YtmgjgkdbagbleaaGreatDoor.NumPut
theorem intA_le {most : Nat} {bs : List Nat} (h8 : ∀ x ∈ bs, x ≤ 255) {at_ : Nat} (er : Int) (h : at_ ≤ bs.length) : intA most bs at_ er ≤ bs.length := by
  unfold intA
  split
  · exact h
  · have := (limP_spec most (bs.drop at_) (fun x hx => h8 x (List.mem_of_mem_drop hx))).2.1
    rw [List.length_drop] at this
    omega
theorem intV_le {most : Nat} {bs : List Nat} (h8 : ∀ x ∈ bs, x ≤ 255) (at_ : Nat) (er : Int) : intV most bs at_ er ≤ most := by
  unfold intV
  split
  · omega
  · exact (limP_spec most (bs.drop at_) (fun x hx => h8 x (List.mem_of_mem_drop hx))).1
end Go.Proofs.YtmgjgkdbagbleaaGreatDoor.Nums
namespace Go.Proofs.YtmgjgkdbagbleaaGreatDoor.Recs
open Go.RowKit Go.Proofs.YtmgjgkdbagbleaaGreatDoor.Mem Go.Proofs.YtmgjgkdbagbleaaGreatDoor.Own Go.Proofs.YtmgjgkdbagbleaaGreatDoor.Canon Go.Proofs.YtmgjgkdbagbleaaGreatDoor.NumPut Go.Proofs.YtmgjgkdbagbleaaGreatDoor.Nums
def recR (bs : List Nat) (at_ : Nat) (er : Int) : Rec × Nat × Int :=
  let a1 := numA bs at_ er; let e1 := numE bs at_ er
  let a2 := takeA bs a1 e1 1; let e2 := takeE bs a1 e1 1
  let a3 := textA 4000 bs a2 e2; let e3 := textE 4000 bs a2 e2
  (⟨(numV bs at_ er : Nat), (byteV bs a1 e1 : Nat), strN (textV 4000 bs a2 e2), strN (textV 4000 bs a3 e3)⟩, textA 4000 bs a3 e3, textE 4000 bs a3 e3)
theorem cur_other {w : World} {g base ob : Nat} {bs : List Nat} {A : Option Addr} {c at_ : Nat} {er : Int} {t : TypeId} {cs : Array Value} (h : Cur w g base bs A c at_ er) (hob : Blk w ob t cs) (ht : t ≠ 5) (hg : t ≠ 161) (k : Nat) (u : Value) : Cur (w.setCell ⟨ob, k, none⟩ u) g base bs A c at_ er :=
  ⟨h.blk.far (fun e => Blk.apart hob h.blk hg e.symm) _, set_own h.own (own_blk h.own hob ht.symm) _, h.le, h.lo⟩
set_option maxHeartbeats 1000000 in
set_option maxRecDepth 100000 in
theorem record_any (w : World) (g base : Nat) (bs : List Nat) (A : Option Addr) (c at_ : Nat) (er : Int) (hle : bs.length ≤ 100000) (h8 : ∀ x ∈ bs, x ≤ 255) (h : Cur w g base bs A c at_ er) :
    Calls Tryz.prog 225 #[.agg #[.pointer (some ⟨g, 0, none⟩)], .bool true] w fun e w' => e = .returned (recR bs at_ er).1.val ∧ Cur w' g base bs A c (recR bs at_ er).2.1 (recR bs at_ er).2.2 ∧ Kept (Others g w) w w' := by
  have hgl := h.blk.lt
  have D1 := Lib.hid (fun wx hx => num_any wx g base bs A c at_ er hle h8 hx)
  unfold recR Rec.val
  simp only
  generalize numV bs at_ er = v1 at *
  generalize numA bs at_ er = a1 at *
  generalize numE bs at_ er = e1 at *
  have D2 := Lib.hid (fun wx hx => byte_any wx g base bs A c a1 e1 hle hx)
  generalize byteV bs a1 e1 = v2 at *
  generalize takeA bs a1 e1 1 = a2 at *
  generalize takeE bs a1 e1 1 = e2 at *
  have D3 := Lib.hid (fun wx hx => ctext_any wx g base bs A c a2 e2 4000 hle h8 (by omega) hx)
  generalize strN (textV 4000 bs a2 e2) = v3 at *
  generalize textA 4000 bs a2 e2 = a3 at *
  generalize textE 4000 bs a2 e2 = e3 at *
  have D4 := Lib.hid (fun wx hx => ctext_any wx g base bs A c a3 e3 4000 hle h8 (by omega) hx)
  generalize strN (textV 4000 bs a3 e3) = v4 at *
  generalize textA 4000 bs a3 e3 = a4 at *
  generalize textE 4000 bs a3 e3 = e4 at *
  have H := Lib.hid h
  clear h h8 hle
  go_enter Tryz.func225, Tryz.ntmps225
  go_wp2_with fail
  refine (D1.out _ (H.out.step (by (repeat (first | (with_reducible exact Below.refl _ _) | (with_reducible assumption) | (with_reducible refine Below.drew ?_) | (with_reducible refine below_drewN ?_ _) | ((with_reducible refine bel_set ?_ ?_); (focus (first | (simp; done) | (simp; omega) | omega | (simp at *; omega)))) | (with_reducible refine bel_alloc0 ?_) | (with_reducible refine bel_step0 (by assumption) ?_) | ((with_reducible refine bel_alloc ?_ ?_); (focus (first | (simp; done) | (simp; omega) | omega | (simp at *; omega)))) | ((with_reducible refine bel_step (by assumption) ?_ ?_); (focus (first | (simp; done) | (simp; omega) | omega | (simp at *; omega))))))))).mono ?_
  rintro e w1 ⟨rfl, hc1, hk1⟩
  have bx1 : Blk w1 w.heap.size 264 #[.pointer (some ⟨g, 0, none⟩)] := (hk1.block _ ⟨by simp; omega, by omega⟩).trans ((Blk.made _ _ _).alloc _)
  have br1 : Blk w1 (w.heap.size + 1) 77 #[.int .u64 0, .int .u8 0, .string ⟨#[]⟩, .string ⟨#[]⟩] := (hk1.block _ ⟨by simp, by omega⟩).trans (Blk.made_at _ _ _ (by simp))
  have HK1 : Hid (Kept (Others g w) w w1) := (Kept.of_below (B := w.heap.size) (by (repeat (first | (with_reducible exact Below.refl _ _) | (with_reducible assumption) | (with_reducible refine Below.drew ?_) | (with_reducible refine below_drewN ?_ _) | ((with_reducible refine bel_set ?_ ?_); (focus (first | (simp; done) | (simp; omega) | omega | (simp at *; omega)))) | (with_reducible refine bel_alloc0 ?_) | (with_reducible refine bel_step0 (by assumption) ?_) | ((with_reducible refine bel_alloc ?_ ?_); (focus (first | (simp; done) | (simp; omega) | omega | (simp at *; omega)))) | ((with_reducible refine bel_step (by assumption) ?_ ?_); (focus (first | (simp; done) | (simp; omega) | omega | (simp at *; omega))))))) (fun x hx => hx.1)).trans ⟨hk1.os, hk1.tape, hk1.output, hk1.size, fun x hx => hk1.block x ⟨by have := hx.1; simp; omega, hx.2⟩⟩
  have HC1 := Lib.hid hc1
  have x1 := bx1.cell 0
  have y1 := br1.cell 0
  have f1 := br1.frozen 0
  simp only [List.getElem?_toArray, List.getElem?_cons_zero] at x1 y1
  have hz1 := hk1.size
  have BX1 := Lib.hid bx1
  have BR1 := Lib.hid br1
  clear hc1 hk1 bx1 br1 D1
  go_wp2_with fail
  refine (D2.out _ (cur_other HC1.out BR1.out (by decide) (by decide) 0 (.int .u64 (v1 : Nat)))).mono ?_
  rintro e w2 ⟨rfl, hc2, hk2⟩
  have bx2 : Blk w2 w.heap.size 264 #[.pointer (some ⟨g, 0, none⟩)] := (hk2.block _ ⟨(BX1.out.far (p := ⟨w.heap.size + 1, 0, none⟩) (by simp) (.int .u64 (v1 : Nat))).lt, by omega⟩).trans (BX1.out.far (p := ⟨w.heap.size + 1, 0, none⟩) (by simp) (.int .u64 (v1 : Nat)))
  have br2 : Blk w2 (w.heap.size + 1) 77 #[.int .u64 (v1 : Nat), .int .u8 0, .string ⟨#[]⟩, .string ⟨#[]⟩] := (hk2.block _ ⟨(BR1.out.set 0 (.int .u64 (v1 : Nat))).lt, by omega⟩).trans (BR1.out.set 0 (.int .u64 (v1 : Nat)))
  have HK2 : Hid (Kept (Others g w) w w2) := (HK1.out.set (p := ⟨w.heap.size + 1, 0, none⟩) (fun h => absurd h.1 (by simp)) (.int .u64 (v1 : Nat))).trans ⟨hk2.os, hk2.tape, hk2.output, hk2.size, fun x hx => hk2.block x ⟨by have := hx.1; have := HK1.out.size; simp; omega, hx.2⟩⟩
  have HC2 := Lib.hid hc2
  have x2 := bx2.cell 0
  have y2 := br2.cell 1
  have f2 := br2.frozen 1
  simp only [List.getElem?_toArray, List.getElem?_cons_zero, List.getElem?_cons_succ] at x2 y2
  have hz2 := hk2.size
  have BX2 := Lib.hid bx2
  have BR2 := Lib.hid br2
  clear hc2 hk2 bx2 br2 D2
  go_wp2_with fail
  refine (D3.out _ (cur_other HC2.out BR2.out (by decide) (by decide) 1 (.int .u8 (v2 : Nat)))).mono ?_
  rintro e w3 ⟨rfl, hc3, hk3⟩
  have bx3 : Blk w3 w.heap.size 264 #[.pointer (some ⟨g, 0, none⟩)] := (hk3.block _ ⟨(BX2.out.far (p := ⟨w.heap.size + 1, 1, none⟩) (by simp) (.int .u8 (v2 : Nat))).lt, by omega⟩).trans (BX2.out.far (p := ⟨w.heap.size + 1, 1, none⟩) (by simp) (.int .u8 (v2 : Nat)))
  have br3 : Blk w3 (w.heap.size + 1) 77 #[.int .u64 (v1 : Nat), .int .u8 (v2 : Nat), .string ⟨#[]⟩, .string ⟨#[]⟩] := (hk3.block _ ⟨(BR2.out.set 1 (.int .u8 (v2 : Nat))).lt, by omega⟩).trans (BR2.out.set 1 (.int .u8 (v2 : Nat)))
  have HK3 : Hid (Kept (Others g w) w w3) := (HK2.out.set (p := ⟨w.heap.size + 1, 1, none⟩) (fun h => absurd h.1 (by simp)) (.int .u8 (v2 : Nat))).trans ⟨hk3.os, hk3.tape, hk3.output, hk3.size, fun x hx => hk3.block x ⟨by have := hx.1; have := HK2.out.size; simp; omega, hx.2⟩⟩
  have HC3 := Lib.hid hc3
  have x3 := bx3.cell 0
  have y3 := br3.cell 2
  have f3 := br3.frozen 2
  simp only [List.getElem?_toArray, List.getElem?_cons_zero, List.getElem?_cons_succ] at x3 y3
  have hz3 := hk3.size
  have BX3 := Lib.hid bx3
  have BR3 := Lib.hid br3
  clear hc3 hk3 bx3 br3 D3
  go_wp2_with fail
  refine (D4.out _ (cur_other HC3.out BR3.out (by decide) (by decide) 2 (.string v3))).mono ?_
  rintro e w4 ⟨rfl, hc4, hk4⟩
  have bx4 : Blk w4 w.heap.size 264 #[.pointer (some ⟨g, 0, none⟩)] := (hk4.block _ ⟨(BX3.out.far (p := ⟨w.heap.size + 1, 2, none⟩) (by simp) (.string v3)).lt, by omega⟩).trans (BX3.out.far (p := ⟨w.heap.size + 1, 2, none⟩) (by simp) (.string v3))
  have br4 : Blk w4 (w.heap.size + 1) 77 #[.int .u64 (v1 : Nat), .int .u8 (v2 : Nat), .string v3, .string ⟨#[]⟩] := (hk4.block _ ⟨(BR3.out.set 2 (.string v3)).lt, by omega⟩).trans (BR3.out.set 2 (.string v3))
  have HK4 : Hid (Kept (Others g w) w w4) := (HK3.out.set (p := ⟨w.heap.size + 1, 2, none⟩) (fun h => absurd h.1 (by simp)) (.string v3)).trans ⟨hk4.os, hk4.tape, hk4.output, hk4.size, fun x hx => hk4.block x ⟨by have := hx.1; have := HK3.out.size; simp; omega, hx.2⟩⟩
  have HC4 := Lib.hid hc4
  have x4 := bx4.cell 0
  have y4 := br4.cell 3
  have f4 := br4.frozen 3
  simp only [List.getElem?_toArray, List.getElem?_cons_zero, List.getElem?_cons_succ] at x4 y4
  have hz4 := hk4.size
  have BX4 := Lib.hid bx4
  have BR4 := Lib.hid br4
  clear hc4 hk4 bx4 br4 D4
  have p0 := BR4.out.cell 0
  have p1 := BR4.out.cell 1
  have p2 := BR4.out.cell 2
  have q0 := BR4.out.frozen 0
  have q1 := BR4.out.frozen 1
  have q2 := BR4.out.frozen 2
  simp only [List.getElem?_toArray, List.getElem?_cons_zero, List.getElem?_cons_succ] at p0 p1 p2
  clear hz1 hz2 hz3 x1 x2 x3 y1 y2 y3 f1 f2 f3
  go_wp2_with fail
  have B5 := ((((BR4.out.set 3 (.string v4)).set 0 (.int .u64 (v1 : Nat))).set 1 (.int .u8 (v2 : Nat))).set 2 (.string v3)).set 3 (.string v4)
  have C5 := cur_other (cur_other (cur_other (cur_other (cur_other HC4.out BR4.out (by decide) (by decide) 3 (.string v4)) (BR4.out.set 3 (.string v4)) (by decide) (by decide) 0 (.int .u64 (v1 : Nat))) ((BR4.out.set 3 (.string v4)).set 0 (.int .u64 (v1 : Nat))) (by decide) (by decide) 1 (.int .u8 (v2 : Nat))) (((BR4.out.set 3 (.string v4)).set 0 (.int .u64 (v1 : Nat))).set 1 (.int .u8 (v2 : Nat))) (by decide) (by decide) 2 (.string v3)) ((((BR4.out.set 3 (.string v4)).set 0 (.int .u64 (v1 : Nat))).set 1 (.int .u8 (v2 : Nat))).set 2 (.string v3)) (by decide) (by decide) 3 (.string v4)
  have hno : ∀ k, ¬ Others g w (⟨w.heap.size + 1, k, none⟩ : Addr).block := fun k h => absurd h.1 (by simp)
  have K5 := ((((HK4.out.set (hno 3) (.string v4)).set (hno 0) (.int .u64 (v1 : Nat))).set (hno 1) (.int .u8 (v2 : Nat))).set (hno 2) (.string v3)).set (hno 3) (.string v4)
  generalize ((((w4.setCell ⟨w.heap.size + 1, 3, none⟩ (.string v4)).setCell ⟨w.heap.size + 1, 0, none⟩ (.int .u64 (v1 : Nat))).setCell ⟨w.heap.size + 1, 1, none⟩ (.int .u8 (v2 : Nat))).setCell ⟨w.heap.size + 1, 2, none⟩ (.string v3)).setCell ⟨w.heap.size + 1, 3, none⟩ (.string v4) = w5 at *
  have z0 := B5.cell 0
  have z1 := B5.cell 1
  have z2 := B5.cell 2
  have z3 := B5.cell 3
  simp at z0 z1 z2 z3
  refine bodyPost_ret (v := .agg #[.int .u64 (v1 : Nat), .int .u8 (v2 : Nat), .string v3, .string v4]) ?_ rfl ⟨rfl, C5, K5⟩
  simp [results, Tryz.results225, go_sem, z0, z1, z2, z3]
end Go.Proofs.YtmgjgkdbagbleaaGreatDoor.Recs
namespace Go.Proofs.YtmgjgkdbagbleaaGreatDoor.Recs
open Go.RowKit Go.Proofs.YtmgjgkdbagbleaaGreatDoor.Mem Go.Proofs.YtmgjgkdbagbleaaGreatDoor.Own Go.Proofs.YtmgjgkdbagbleaaGreatDoor.Canon Go.Proofs.YtmgjgkdbagbleaaGreatDoor.NumPut Go.Proofs.YtmgjgkdbagbleaaGreatDoor.Nums
theorem textA_le {most : Nat} {bs : List Nat} (h8 : ∀ x ∈ bs, x ≤ 255) {at_ : Nat} (er : Int) (h : at_ ≤ bs.length) : textA most bs at_ er ≤ bs.length := by
  unfold textA
  split
  · exact h
  · have := (txtP_spec most (bs.drop at_) (fun x hx => h8 x (List.mem_of_mem_drop hx))).2.1
    rw [List.length_drop] at this
    omega
theorem textA_ge (most : Nat) (bs : List Nat) (at_ : Nat) (er : Int) : at_ ≤ textA most bs at_ er := by
  unfold textA
  split <;> omega
theorem takeA_ge (bs : List Nat) (at_ : Nat) (er : Int) (n : Nat) : at_ ≤ takeA bs at_ er n := by
  unfold takeA
  split
  · omega
  · split <;> omega
theorem recR_spec {bs : List Nat} (h8 : ∀ x ∈ bs, x ≤ 255) {at_ : Nat} (h : at_ ≤ bs.length) (er : Int) : (recR bs at_ er).2.1 ≤ bs.length ∧ ((recR bs at_ er).2.2 = 0 → at_ < (recR bs at_ er).2.1) ∧ RecOk (recR bs at_ er).1 := by
  have hA := numA_le h8 er h
  have hA2 := takeA_le bs (numA bs at_ er) (numE bs at_ er) 1 hA
  have hA3 := textA_le (most := 4000) h8 (takeE bs (numA bs at_ er) (numE bs at_ er) 1) hA2
  refine ⟨textA_le h8 _ hA3, fun he => ?_, ?_⟩
  · have e0 : er = 0 := by
      refine Decidable.byContradiction fun hn => ?_
      have e1 : numE bs at_ er = er := if_pos hn
      have e2 : ∀ a, takeE bs a er 1 = er := fun a => if_pos hn
      have e3 : ∀ a, textE 4000 bs a er = er := fun a => if_pos hn
      unfold recR at he
      simp only [e1, e2, e3] at he
      exact hn he
    have e1 : numE bs at_ er = 0 := by
      refine Decidable.byContradiction fun hn => ?_
      have e2 : ∀ a, takeE bs a (numE bs at_ er) 1 = numE bs at_ er := fun a => if_pos hn
      have e3 : ∀ a, textE 4000 bs a (numE bs at_ er) = numE bs at_ er := fun a => if_pos hn
      unfold recR at he
      simp only [e2, e3] at he
      exact hn he
    have hs := scanP_spec (bs.drop at_) 0 0 (fun x hx => h8 x (List.mem_of_mem_drop hx)) (by omega) (by simp)
    have h1 : numA bs at_ er = at_ + (scanP (bs.drop at_) 0 0).2.1 := if_neg (by simp [e0])
    have h2 : numE bs at_ er = (scanP (bs.drop at_) 0 0).2.2 := if_neg (by simp [e0])
    have h3 := hs.2.2.1 (h2.symm.trans e1)
    have h4 := takeA_ge bs (numA bs at_ er) (numE bs at_ er) 1
    have h5 := textA_ge 4000 bs (takeA bs (numA bs at_ er) (numE bs at_ er) 1) (takeE bs (numA bs at_ er) (numE bs at_ er) 1)
    have h6 := textA_ge 4000 bs (textA 4000 bs (takeA bs (numA bs at_ er) (numE bs at_ er) 1) (takeE bs (numA bs at_ er) (numE bs at_ er) 1)) (textE 4000 bs (takeA bs (numA bs at_ er) (numE bs at_ er) 1) (takeE bs (numA bs at_ er) (numE bs at_ er) 1))
    show at_ < textA 4000 bs _ _
    omega
  · have hv : numV bs at_ er < 18446744073709551616 := by
      unfold numV
      split
      · omega
      · exact (scanP_spec (bs.drop at_) 0 0 (fun x hx => h8 x (List.mem_of_mem_drop hx)) (by omega) (by simp)).1
    have hb : byteV bs (numA bs at_ er) (numE bs at_ er) ≤ 255 := by
      unfold byteV
      split
      · omega
      · rw [List.getD_eq_getElem?_getD]
        rcases hg : bs[numA bs at_ er]? with _ | x
        · simp
        · exact h8 x (List.mem_of_getElem? hg)
    unfold RecOk recR
    simp only
    omega
def readR : Nat → List Nat → Nat → List Rec → List Rec × Int
  | 0, _, _, acc => (acc, 0)
  | f + 1, bs, at_, acc => if bs.length ≤ at_ then (acc, 0) else if (recR bs at_ 0).2.2 ≠ 0 then ([], (recR bs at_ 0).2.2) else readR f bs (recR bs at_ 0).2.1 (acc ++ [(recR bs at_ 0).1])
theorem readR_end {f : Nat} {bs : List Nat} {at_ : Nat} {acc : List Rec} (h : bs.length ≤ at_) : readR f bs at_ acc = (acc, 0) := by
  cases f with
  | zero => rfl
  | succ f => exact if_pos h
def readRecs (bs : List Nat) : List Rec × Int := readR bs.length bs 0 []
def recL (l : List Rec) : List Value := l.flatMap fun r => [.int .u64 r.time, .int .u8 r.level, .string r.source, .string r.text]
theorem recL_snoc (l : List Rec) (r : Rec) : recL (l ++ [r]) = recL l ++ [.int .u64 r.time, .int .u8 r.level, .string r.source, .string r.text] := by simp [recL]
theorem recL_app (l m : List Rec) : recL (l ++ m) = recL l ++ recL m := by simp [recL]
theorem info_rec : (Tryz.prog.info? 77).map (fun i => (i.zero, i.size, i.bytes)) = some (some (.agg #[.int .u64 0, .int .u8 0, .string ⟨#[]⟩, .string ⟨#[]⟩]), 4, 48) := by kernel_rfl
theorem recL_get : ∀ (l : List Rec) (i j : Nat), i < l.length → j < 4 → (recL l)[i * 4 + j]? = some (recF l i j)
  | [], i, j, h, _ => by simp at h
  | t :: ts, 0, j, _, hj => by
    obtain rfl | rfl | rfl | rfl : j = 0 ∨ j = 1 ∨ j = 2 ∨ j = 3 := by omega
    all_goals rfl
  | t :: ts, i + 1, j, h, hj => by
    have := recL_get ts i j (by simpa using h) hj
    show (_ :: _ :: _ :: _ :: recL ts)[(i + 1) * 4 + j]? = _
    rw [show (i + 1) * 4 + j = (i * 4 + j) + 1 + 1 + 1 + 1 by omega, List.getElem?_cons_succ, List.getElem?_cons_succ, List.getElem?_cons_succ, List.getElem?_cons_succ, this]
    rfl
theorem own_recs {w : World} {base c : Nat} {A : Option Addr} {l : List Rec} (h : w.ownsRow base 77 4 (.slice A l.length c) l.length (recL l)) : Row w w.heap.size A l.length 4 (recF l) :=
  Row.of_own h rfl fun i j hi hj => recL_get l i j hi hj
def RecsPost (w : World) (R : List Rec × Int) (e : Ending) (w' : World) : Prop :=
  ∃ v, e = .returned (.tuple #[v, .int .i64 R.2]) ∧ w'.ownsRow w.heap.size 77 4 v R.1.length (recL R.1) ∧ Below w.heap.size w w'
def atOf (w : World) (g : Nat) : Nat := (intOf ((w.cell? ⟨g, 1, none⟩).getD (.int .i64 0))).toNat
set_option maxHeartbeats 2000000 in
set_option maxRecDepth 100000 in
theorem recsread_any (w : World) (A : Option Addr) (n c : Nat) (bs : List Nat) (hn : bs.length = n) (hle : n ≤ 100000) (h8 : ∀ x ∈ bs, x ≤ 255) (hnil : A = none → n = 0 ∧ c = 0) (ha : Row w w.heap.size A n 1 (numF .u8 bs)) :
    Calls Tryz.prog 156 #[.bool true, .slice A n c] w (RecsPost w (readRecs bs)) := by
  obtain ⟨j0, hj0, hy0, hy1, hy2⟩ := info_parts info_rec
  have D0 := Lib.hid (new_any w A n c bs hn hle hnil ha)
  have hle' : bs.length ≤ 100000 := by omega
  obtain ⟨R, hR⟩ : ∃ R, R = readRecs bs := ⟨_, rfl⟩
  have HR0 : Hid (readR bs.length bs 0 [] = R) := hR.symm
  rw [← hR]
  have H8 := Lib.hid h8
  clear hn hnil ha hR h8 hle
  go_enter Tryz.func156, Tryz.ntmps156
  go_wp2_with fail
  refine D0.out.mono ?_
  rintro e w1 ⟨g, B, d, rfl, hc1, hb1⟩
  have z1 := hb1.size
  have hgl := hc1.blk.lt
  have hglo := hc1.lo
  have HC1 := Lib.hid hc1
  have HB1 := Lib.hid hb1
  clear hc1 hb1 D0
  go_wp2_with fail
  have hC2 := HC1.out.step (w' := w1.alloc (.cells #[.pointer (some ⟨g, 0, none⟩)] 264)) (by (repeat (first | (with_reducible exact Below.refl _ _) | (with_reducible assumption) | (with_reducible refine Below.drew ?_) | (with_reducible refine below_drewN ?_ _) | ((with_reducible refine bel_set ?_ ?_); (focus (first | (simp; done) | (simp; omega) | omega | (simp at *; omega)))) | (with_reducible refine bel_alloc0 ?_) | (with_reducible refine bel_step0 (by assumption) ?_) | ((with_reducible refine bel_alloc ?_ ?_); (focus (first | (simp; done) | (simp; omega) | omega | (simp at *; omega)))) | ((with_reducible refine bel_step (by assumption) ?_ ?_); (focus (first | (simp; done) | (simp; omega) | omega | (simp at *; omega)))))))
  have hx2 : Blk (w1.alloc (.cells #[.pointer (some ⟨g, 0, none⟩)] 264)) w1.heap.size 264 #[.pointer (some ⟨g, 0, none⟩)] := Blk.made _ _ _
  have hb2 : Below w.heap.size w (w1.alloc (.cells #[.pointer (some ⟨g, 0, none⟩)] 264)) := bel_alloc z1 HB1.out
  generalize w1.alloc (.cells #[.pointer (some ⟨g, 0, none⟩)] 264) = w2 at *
  have z2 := hb2.size
  have z2' := hx2.lt
  have HC2 := Lib.hid hC2
  have HX2 := Lib.hid hx2
  have HB2 := Lib.hid hb2
  clear hC2 hx2 hb2 HC1 HB1
  go_loopw [7] (fun v wr => ∃ (f at_ : Nat) (acc : List Rec), at_ ≤ bs.length ∧ acc.length ≤ at_ ∧ Hid (bs.length ≤ f + at_) ∧ Hid (readR f bs at_ acc = R) ∧ Hid (wr.ownsRow w2.heap.size 77 4 v acc.length (recL acc)) ∧ Hid (Cur wr g w.heap.size bs B d at_ 0) ∧ Hid (Kept (fun x => x < w2.heap.size ∧ x ≠ g) w2 wr)) (fun _ wr => bs.length - atOf wr g)
  case atStart => exact ⟨bs.length, 0, [], by omega, by simp, Nat.le_refl _, HR0.out, World.ownsRow_nil _ _ _ _, HC2.out, Kept.refl _ _⟩
  case round =>
    obtain ⟨f, at_, acc, hat, hacc, HF, HG, HO, HC, HK⟩ := hrel
    have hne : w1.heap.size ≠ g := by omega
    have zk := HK.out.size
    have xb : Blk wr w1.heap.size 264 #[.pointer (some ⟨g, 0, none⟩)] := (HK.out.block _ ⟨z2', hne⟩).trans HX2.out
    have x0 := xb.cell 0
    simp only [List.getElem?_toArray, List.getElem?_cons_zero] at x0
    have XB := Lib.hid xb
    have DL := Lib.hid (left_any wr g w.heap.size bs B d at_ 0 HC.out)
    have hown := HO.out
    obtain ⟨va, vc, rfl⟩ := own_shape hown
    have hme : atOf wr g = at_ := by
      have h1 := HC.out.cells.2.1
      unfold atOf
      rw [h1]
      exact Int.toNat_natCast _
    have HME := Lib.hid hme
    have HBL : Hid (Below w.heap.size w wr) := HB2.out.trans (HK.out.below (fun b h => ⟨by omega, by have := HC.out.lo; omega⟩))
    clear xb hown hme HR0
    by_cases hend : bs.length ≤ at_
    · have hm0 : bs.length - at_ = 0 := by omega
      have HG2 : Hid (R = (acc, 0)) := HG.out.symm.trans (readR_end hend)
      rw [hm0] at DL
      clear hend hm0 HG
      go_wp2_with fail
      refine DL.out.mono ?_
      rintro e w3 ⟨rfl, q, rfl⟩
      go_wp2_with fail
      go_ret2
      rw [HG2.out]
      exact ⟨_, rfl, own_mono (own_kept HO.out (fun x hx => rfl)) z2, below_drewN HBL.out q⟩
    · obtain ⟨f, rfl⟩ : ∃ f', f = f' + 1 := ⟨f - 1, by have := HF.out; omega⟩
      have hpos : 0 < bs.length - at_ := by omega
      have gl : decide ((0 : Int) < ((bs.length - at_ : Nat) : Int)) = true := by simp; omega
      have gl' : decide (0 < bs.length - at_) = true := by simp; omega
      have gl2 : decide (at_ < bs.length) = true := by simp; omega
      have hG := HG.out
      unfold readR at hG
      rw [if_neg hend] at hG
      have hsp := recR_spec H8.out hat 0
      have DR := Lib.hid (fun wx hx => record_any wx g w.heap.size bs B d at_ 0 hle' H8.out hx)
      generalize recR bs at_ 0 = T at *
      obtain ⟨⟨rt, rl, rs, rx⟩, a2, e2⟩ := T
      simp only at hG hsp DR
      unfold Rec.val at DR
      simp only at DR
      have hs1 := hsp.1
      have hs2 := Lib.hid hsp.2.1
      generalize hmm : bs.length - at_ = m at *
      have HMM := Lib.hid hmm
      clear hmm HG hsp
      by_cases he : e2 = 0
      · subst he
        rw [if_neg (by simp)] at hG
        have HG := Lib.hid hG
        clear hG
        go_wp2_with fail
        refine DL.out.mono ?_
        rintro e w3 ⟨rfl, q, rfl⟩
        go_wp2_with fail
        refine (DR.out _ (HC.out.drewN q)).mono ?_
        rintro e w4 ⟨rfl, hc4, hk4⟩
        have z4 := hk4.size
        simp at z4
        have zl4 : w1.heap.size < w4.heap.size := by omega
        have xb4 : Blk w4 w1.heap.size 264 #[.pointer (some ⟨g, 0, none⟩)] := (hk4.block _ ⟨(XB.out.drewN q).lt, hne⟩).trans (XB.out.drewN q)
        have x4 := xb4.cell 0
        simp only [List.getElem?_toArray, List.getElem?_cons_zero] at x4
        have HO4 : Hid (w4.ownsRow w2.heap.size 77 4 (.slice va acc.length vc) acc.length (recL acc)) := own_kept HO.out (fun x hx => hk4.block x ⟨(World.ownsRow.lt HO.out x hx).2, by have := (World.ownsRow.lt HO.out x hx).1; omega⟩)
        have HK4 : Hid (Kept (fun x => x < w2.heap.size ∧ x ≠ g) w2 w4) := HK.out.trans ⟨hk4.os, hk4.tape, hk4.output, hk4.size, fun x hx => hk4.block x ⟨by have := hx.1; simp; omega, hx.2⟩⟩
        have HC4 := Lib.hid hc4
        clear hc4 hk4 xb4 x0 DL DR HO HK HC XB
        go_wp2_with fail
        refine (err_any _ g w.heap.size bs B d a2 0 (HC4.out.step (by (repeat (first | (with_reducible exact Below.refl _ _) | (with_reducible assumption) | (with_reducible refine Below.drew ?_) | (with_reducible refine below_drewN ?_ _) | ((with_reducible refine bel_set ?_ ?_); (focus (first | (simp; done) | (simp; omega) | omega | (simp at *; omega)))) | (with_reducible refine bel_alloc0 ?_) | (with_reducible refine bel_step0 (by assumption) ?_) | ((with_reducible refine bel_alloc ?_ ?_); (focus (first | (simp; done) | (simp; omega) | omega | (simp at *; omega)))) | ((with_reducible refine bel_step (by assumption) ?_ ?_); (focus (first | (simp; done) | (simp; omega) | omega | (simp at *; omega))))))))).mono ?_
        rintro e w5 ⟨rfl, rfl⟩
        have hlt := hs2.out trivial
        have hacc2 : acc.length ≤ 100000 := by omega
        go_wp2_with (at_builtin; refine wpList_app rfl (.tmp 26) (.tmp 28) 26 rfl w2.heap.size 77 j0 _ 4 48 Tryz.underlying26 hj0 hy0 hy1 hy2 rfl (by decide) _ _ _ (by rfl) ((HO4.out.alloc _).alloc _) _ 1 1 [.int .u64 rt, .int .u8 rl, .string rs, .string rx] (by rfl) (Src.of_blk (g := w4.heap.size + 1) (Blk.made_at _ _ _ (by simp)) 1 1 4 rfl) (by intro u hu; simp at hu; rcases hu with rfl | rfl | rfl | rfl <;> rfl) (by unfold maxLen; omega) (by omega) (by simp; omega) ?_; intro v5 w5 hown5 hg5 hat5)
        have hc5 : Cur w5 g w.heap.size bs B d a2 0 := by
          have h1 := (HC4.out.step (w' := (w4.alloc (.cells #[.int .u64 rt, .int .u8 rl, .string rs, .string rx] 77)).alloc (.cells #[.int .u64 rt, .int .u8 rl, .string rs, .string rx] 77)) (by (repeat (first | (with_reducible exact Below.refl _ _) | (with_reducible assumption) | (with_reducible refine Below.drew ?_) | (with_reducible refine below_drewN ?_ _) | ((with_reducible refine bel_set ?_ ?_); (focus (first | (simp; done) | (simp; omega) | omega | (simp at *; omega)))) | (with_reducible refine bel_alloc0 ?_) | (with_reducible refine bel_step0 (by assumption) ?_) | ((with_reducible refine bel_alloc ?_ ?_); (focus (first | (simp; done) | (simp; omega) | omega | (simp at *; omega)))) | ((with_reducible refine bel_step (by assumption) ?_ ?_); (focus (first | (simp; done) | (simp; omega) | omega | (simp at *; omega))))))))
          exact ⟨h1.blk.grown hg5 (fun e => by have := (World.ownsRow.lt HO4.out g e.symm).1; omega), own_kept h1.own (fun x hx => hg5.block x (World.ownsRow.lt h1.own x hx).2 (fun e => by have := (World.ownsRow.lt HC2.out.own x hx).2; have := (World.ownsRow.lt HO4.out x e.symm).1; omega)), h1.le, h1.lo⟩
        go_roundw
        case measure =>
          go_light
          have h1 := hc5.cells.2.1
          have h2 : atOf w5 g = a2 := by
            unfold atOf
            rw [h1]
            exact Int.toNat_natCast _
          rw [h2, HME.out]
          omega
        case rel =>
          go_light
          refine ⟨f, a2, acc ++ [⟨rt, rl, rs, rx⟩], hs1, by rw [List.length_append]; simp; omega, ?_, HG, ?_, hc5, ?_⟩
          · show _ ≤ _; have := HF.out; omega
          · rw [recL_snoc, List.length_append]; exact hown5
          · exact ((HK4.out.alloc (fun b h => by have := h.1; omega) _).alloc (fun b h => by have := h.1; simp; omega) _).grown hg5 (fun b h => by have := h.1; simp; omega) (fun b hb hh => by have := (World.ownsRow.lt HO4.out b hb).1; have := hh.1; omega)
      · rw [if_pos he] at hG
        have HG := Lib.hid hG
        have g1 : (e2 != 0) = true := by simpa using he
        clear hG he
        go_wp2_with fail
        refine DL.out.mono ?_
        rintro e w3 ⟨rfl, q, rfl⟩
        go_wp2_with fail
        refine (DR.out _ (HC.out.drewN q)).mono ?_
        rintro e w4 ⟨rfl, hc4, hk4⟩
        have z4 := hk4.size
        simp at z4
        have zl4 : w1.heap.size < w4.heap.size := by omega
        have xb4 : Blk w4 w1.heap.size 264 #[.pointer (some ⟨g, 0, none⟩)] := (hk4.block _ ⟨(XB.out.drewN q).lt, hne⟩).trans (XB.out.drewN q)
        have x4 := xb4.cell 0
        simp only [List.getElem?_toArray, List.getElem?_cons_zero] at x4
        have HO4 : Hid (w4.ownsRow w2.heap.size 77 4 (.slice va acc.length vc) acc.length (recL acc)) := own_kept HO.out (fun x hx => hk4.block x ⟨(World.ownsRow.lt HO.out x hx).2, by have := (World.ownsRow.lt HO.out x hx).1; omega⟩)
        have HK4 : Hid (Kept (fun x => x < w2.heap.size ∧ x ≠ g) w2 w4) := HK.out.trans ⟨hk4.os, hk4.tape, hk4.output, hk4.size, fun x hx => hk4.block x ⟨by have := hx.1; simp; omega, hx.2⟩⟩
        have HC4 := Lib.hid hc4
        clear hc4 hk4 xb4 x0 DL DR HO HK HC XB
        go_wp2_with fail
        refine (err_any _ g w.heap.size bs B d a2 e2 (HC4.out.step (by (repeat (first | (with_reducible exact Below.refl _ _) | (with_reducible assumption) | (with_reducible refine Below.drew ?_) | (with_reducible refine below_drewN ?_ _) | ((with_reducible refine bel_set ?_ ?_); (focus (first | (simp; done) | (simp; omega) | omega | (simp at *; omega)))) | (with_reducible refine bel_alloc0 ?_) | (with_reducible refine bel_step0 (by assumption) ?_) | ((with_reducible refine bel_alloc ?_ ?_); (focus (first | (simp; done) | (simp; omega) | omega | (simp at *; omega)))) | ((with_reducible refine bel_step (by assumption) ?_ ?_); (focus (first | (simp; done) | (simp; omega) | omega | (simp at *; omega))))))))).mono ?_
        rintro e w5 ⟨rfl, rfl⟩
        go_wp2_with fail
        go_ret2
        rw [← HG.out]
        exact ⟨_, rfl, World.ownsRow_nil _ _ _ _, bel_alloc (by omega) (HB2.out.trans (HK4.out.below (fun b h => ⟨by omega, by have := HC4.out.lo; omega⟩)))⟩
end Go.Proofs.YtmgjgkdbagbleaaGreatDoor.Recs
