/-
  Plain: rising texts in buckets (chapter 16): the bytes that are written. No walk. Texts that rise: the walks of dict.may, dict.rises and the reference's May. Numbers that rise below a bound: the walks of ef.rises and the reference's May. Plain: what rising numbers below a bound are, and how many bits they take. No walk. How far two texts are alike: the walks of dict.same and the reference's Alike. The width of the low bits: the walks of ef.width and the reference's.
-/
import Derived.Test.YtcafklmbehoggaaGreatDoorZBodyNone11
import Derived.Test.YtcafklmbehoggaaGreatDoorZBodyNone10
import Derived.Test.YtcafklmbehoggaaGreatDoorZBodyNone13
import Derived.Test.YtcafklmbehoggaaGreatDoorZBodyNone12
import Derived.BigQuiet
import Derived.Deep.QuietTactic
namespace Go.Proofs.YtcafklmbehoggaaGreatDoor.Idx
open Go.Proofs.YtcafklmbehoggaaGreatDoor.NumPut (numB)
def natS (s : Str) : List Nat := s.map UInt8.toNat
def textS (s : Str) : List Nat := numB s.length ++ natS s
def alikeS : Str → Str → Nat
  | a :: s, b :: t => if a = b then alikeS s t + 1 else 0
  | _, _ => 0
theorem alikeS_le : ∀ a b, alikeS a b ≤ a.length ∧ alikeS a b ≤ b.length
  | [], b => by simp [alikeS]
  | a :: s, [] => by simp [alikeS]
  | a :: s, b :: t => by
    have := alikeS_le s t
    rw [alikeS]
    split <;> simp <;> omega
def restB : Str → List Str → List Nat
  | _, [] => []
  | was, x :: t => numB (alikeS was x) ++ textS (x.drop (alikeS was x)) ++ restB x t
def bucketB : List Str → List Nat
  | [] => []
  | x :: t => textS x ++ restB x t
theorem restB_snoc : ∀ (t : List Str) (was x : Str), restB was (t ++ [x]) = restB was t ++ (numB (alikeS (t.getLast?.getD was) x) ++ textS (x.drop (alikeS (t.getLast?.getD was) x)))
  | [], was, x => by simp [restB]
  | y :: t, was, x => by
    rw [List.cons_append, restB, restB_snoc t y x, restB]
    have e : ((y :: t).getLast?.getD was) = t.getLast?.getD y := by
      cases t with
      | nil => rfl
      | cons z s => simp [List.getLast?_cons]
    rw [e]
    simp only [List.append_assoc]
theorem bucketB_snoc {l : List Str} (h : l ≠ []) (x was : Str) (hw : l.getLast? = some was) : bucketB (l ++ [x]) = bucketB l ++ (numB (alikeS was x) ++ textS (x.drop (alikeS was x))) := by
  cases l with
  | nil => exact absurd rfl h
  | cons y t =>
    rw [List.cons_append, bucketB, restB_snoc, bucketB]
    have e : t.getLast?.getD y = was := by
      cases t with
      | nil => simpa using hw
      | cons z s => simp [List.getLast?_cons] at hw ⊢; exact hw
    rw [e, List.append_assoc]
def bucketsS (size : Nat) : Nat → List Str → List (List Str)
  | 0, _ => []
  | f + 1, l => if l = [] then [] else l.take size :: bucketsS size f (l.drop size)
def buckets (size : Nat) (l : List Str) : List (List Str) := bucketsS size l.length l
def dictO (size : Nat) (l : List Str) : List Nat :=
  numB l.length ++ (buckets size l).flatMap (fun c => numB (bucketB c).length) ++ (buckets size l).flatMap bucketB
end Go.Proofs.YtcafklmbehoggaaGreatDoor.Idx
namespace Go.Proofs.YtcafklmbehoggaaGreatDoor.Idx
open Go.RowKit Go.Proofs.YtcafklmbehoggaaGreatDoor.Mem Go.Proofs.YtcafklmbehoggaaGreatDoor.Own Go.Proofs.YtcafklmbehoggaaGreatDoor.Canon Go.Proofs.YtcafklmbehoggaaGreatDoor.Sift
def mayT (was s : Str) : Bool := decide (1 ≤ s.length) && (decide (s.length ≤ 25) && decide (was < s))
theorem bs_empty (s : Str) (h : s ≠ []) : ((bs s).toList == ({ data := #[] } : ByteArray).toList) = false ∧ ((bs s).toList == []) = false ∧ (bs s).toList.isEmpty = false ∧ ¬ (bs s).toList = [] := by
  have e : (bs s).toList = s := by rw [ByteArray.toList_eq, bs_list]
  have e2 : ({ data := #[] } : ByteArray).toList = [] := by rw [ByteArray.toList_eq]
  rw [e, e2]
  cases s with
  | nil => exact absurd rfl h
  | cons x t => exact ⟨rfl, rfl, rfl, by simp⟩
theorem bs_nil : ((bs []).toList == ({ data := #[] } : ByteArray).toList) = true ∧ ((bs []).toList == []) = true ∧ (bs []).toList.isEmpty = true ∧ (bs []).toList = [] := by
  have e : (bs []).toList = [] := by rw [ByteArray.toList_eq, bs_list]
  have e2 : ({ data := #[] } : ByteArray).toList = [] := by rw [ByteArray.toList_eq]
  rw [e, e2]
  exact ⟨rfl, rfl, rfl, rfl⟩
theorem run_gtr (P : Program) (t : TypeId) (a b : Str) (w : World) : (binOp .gtr t (.string (bs a)) (.string (bs b))).run P w = .ok (.bool (decide (b < a))) w := by
  have h : (binOp .gtr t (.string (bs a)) (.string (bs b))).run P w = .ok (.bool (!(Op.bytesLess (bs a).toList (bs b).toList || (bs a).toList == (bs b).toList))) w := rfl
  rw [h, str_lt, str_eq]
  rcases slt_tri a b with h | h | h
  · simp [h, slt_asymm h]
  · subst h
    simp [slt_irrefl]
  · have h1 : ¬ a < b := slt_asymm h
    have h2 : a ≠ b := fun e => slt_irrefl b (by rw [e] at h; exact h)
    simp [h, h1, h2]
set_option maxRecDepth 100000 in
theorem may16_any (w : World) (was s : Str) : Calls Tryz.prog 196 #[.string (bs was), .string (bs s)] w fun e w' => e = .returned (.bool (mayT was s)) ∧ w' = w := by
  have hz := bs_size s
  by_cases h0 : s = []
  · subst h0
    have hr : mayT was [] = false := rfl
    rw [hr]
    obtain ⟨a1, a2, a3, a4⟩ := bs_nil
    go_enter Tryz.func196, Tryz.ntmps196
    go_wp2_with fail
    go_ret
    exact ⟨rfl, rfl⟩
  · obtain ⟨a1, a2, a3, a4⟩ := bs_empty s h0
    have h1 : 1 ≤ s.length := List.length_pos_iff.2 h0
    have hg := fun wx => run_gtr Tryz.prog 9 s was wx
    have hr : mayT was s = (decide (s.length ≤ 25) && decide (was < s)) := by simp [mayT, h1]
    rw [hr]
    generalize decide (was < s) = D at *
    generalize bs s = S at *
    generalize bs was = W at *
    clear hr h0
    by_cases h2 : s.length ≤ 25
    · have z2 : decide ((s.length : Int) ≤ 25) = true := by simp; omega
      have z3 : decide (s.length ≤ 25) = true := by simpa using h2
      rw [z3]
      go_enter Tryz.func196, Tryz.ntmps196
      go_wp2_with fail
      go_ret
      exact ⟨by simp, rfl⟩
    · have z2 : decide ((s.length : Int) ≤ 25) = false := by simp; omega
      have z3 : decide (s.length ≤ 25) = false := by simpa using h2
      rw [z3]
      go_enter Tryz.func196, Tryz.ntmps196
      go_wp2_with fail
      go_ret
      exact ⟨by simp, rfl⟩
def risesT : Str → List Str → Bool
  | _, [] => true
  | was, s :: t => mayT was s && risesT s t
def mayD (l : List Str) : Bool := risesT [] l && decide (l.length ≤ 1048576)
theorem risesT_step {u t : Str} {l : List Str} {k : Nat} (h : l[k]? = some t) : risesT u (l.drop k) = (mayT u t && risesT t (l.drop (k + 1))) := by
  obtain ⟨hk, e⟩ := List.getElem?_eq_some_iff.1 h
  rw [List.drop_eq_getElem_cons hk, risesT, e]
set_option maxHeartbeats 1000000 in
set_option maxRecDepth 100000 in
theorem rises16_any (w : World) (A : Option Addr) (n c : Nat) (ls : List Str) (hn : ls.length = n) (hN : n ≤ 3000000000) (ha : Row w w.heap.size A n 1 (strF ls)) :
    Calls Tryz.prog 139 #[.slice A n c] w fun e w' => e = .returned (.bool (mayD ls)) ∧ w' = w := by
  have HN := Lib.hid hn
  obtain ⟨R, hR⟩ : ∃ R, R = mayD ls := ⟨_, rfl⟩
  have HR : Hid (R = (risesT [] ls && decide (n ≤ 1048576))) := by show R = _; rw [hR, ← hn]; rfl
  rw [← hR]
  clear hn hR
  go_enter Tryz.func139, Tryz.ntmps139
  go_wp2_with fail
  go_loopw [3, 8] (fun uv iv wx => ∃ (k : Nat) (u : Str), k ≤ n ∧ iv = .int .i64 k ∧ uv = .string (bs u) ∧ Hid (risesT [] ls = risesT u (ls.drop k)) ∧ wx = w) (fun _ iv _ => n - (intOf iv).toNat)
  case atStart => exact ⟨0, [], by omega, rfl, rfl, rfl, rfl⟩
  case round =>
    obtain ⟨k, u, hk, rfl, rfl, HS, rfl⟩ := hrel
    by_cases hlt : k < n
    · have gk : decide ((k : Int) < (n : Int)) = true := by simp; omega
      have gk' : decide (k < n) = true := by simp; omega
      have x0 : (0 : Int) ≤ (k : Int) := by omega
      have x1 : (k : Int) < (n : Int) := by omega
      obtain ⟨b, off, t, rfl, _, ht, ck⟩ := Row.str ha HN.out hlt
      have hst := risesT_step (u := u) ht
      have D := Lib.hid (may16_any wr u t)
      by_cases hm : mayT u t = true
      · rw [hm, Bool.true_and] at hst
        rw [hm] at D
        have HS2 : Hid (risesT [] ls = risesT t (ls.drop (k + 1))) := HS.out.trans hst
        clear HS hst hm ht
        go_wp2_with (refine D.out.mono ?_; rintro e w' ⟨rfl, rfl⟩)
        go_roundw
        case measure => go_light; simp [intOf]; omega
        case rel => go_light; exact ⟨k + 1, t, by omega, by first | rfl | go_num, rfl, HS2.out, by first | rfl | trivial⟩
      · have hm : mayT u t = false := by simpa using hm
        rw [hm, Bool.false_and] at hst
        rw [hm] at D
        have hr : R = false := by rw [HR.out, HS.out, hst]; rfl
        subst hr
        clear HS hst hm ht HR
        go_wp2_with (refine D.out.mono ?_; rintro e w' ⟨rfl, rfl⟩)
        go_ret
        exact ⟨rfl, rfl⟩
    · obtain rfl : k = n := by omega
      have gk : decide ((k : Int) < (k : Int)) = false := by simp
      have gk' : decide (k < k) = false := by simp
      have hr : R = decide (k ≤ 1048576) := by
        have h := HS.out
        rw [List.drop_of_length_le (by rw [HN.out]; exact Nat.le_refl _)] at h
        rw [HR.out, h]
        simp [risesT]
      by_cases hz : k ≤ 1048576
      · have z1 : decide ((k : Int) ≤ 1048576) = true := by simp; omega
        rw [decide_eq_true hz] at hr
        subst hr
        clear HS HR hlt
        go_wp2_with fail
        go_ret
        exact ⟨rfl, rfl⟩
      · have z1 : decide ((k : Int) ≤ 1048576) = false := by simp; omega
        rw [decide_eq_false hz] at hr
        subst hr
        clear HS HR hlt
        go_wp2_with fail
        go_ret
        exact ⟨rfl, rfl⟩
end Go.Proofs.YtcafklmbehoggaaGreatDoor.Idx
namespace Go.Proofs.YtcafklmbehoggaaGreatDoor.Ef
open Go.RowKit Go.Proofs.YtcafklmbehoggaaGreatDoor.Mem Go.Proofs.YtcafklmbehoggaaGreatDoor.Own Go.Proofs.YtcafklmbehoggaaGreatDoor.Canon
def mayO (bound : Nat) (u : Option Nat) (x : Nat) : Bool := decide (x < bound) && (match u with | none => true | some y => decide (y < x))
def mayI (bound : Nat) : Option Nat → List Nat → Bool
  | _, [] => true
  | u, x :: t => mayO bound u x && mayI bound (some x) t
def wasV : Option Nat → Int
  | none => -1
  | some y => y
theorem mayI_step {bound : Nat} {u : Option Nat} {x : Nat} {l : List Nat} {k : Nat} (h : l[k]? = some x) : mayI bound u (l.drop k) = (mayO bound u x && mayI bound (some x) (l.drop (k + 1))) := by
  obtain ⟨hk, e⟩ := List.getElem?_eq_some_iff.1 h
  rw [List.drop_eq_getElem_cons hk, mayI, e]
theorem mayO_eq (bound : Nat) (u : Option Nat) (x : Nat) : mayO bound u x = (decide ((x : Int) < (bound : Int)) && decide (wasV u < (x : Int))) := by
  unfold mayO
  cases u with
  | none =>
    have : decide (wasV none < (x : Int)) = true := decide_eq_true (by show (-1 : Int) < _; omega)
    rw [this]
    congr 1
    exact decide_eq_decide.2 (by omega)
  | some y =>
    congr 1
    · exact decide_eq_decide.2 (by omega)
    · exact decide_eq_decide.2 (by simp only [wasV]; omega)
set_option maxHeartbeats 1000000 in
set_option maxRecDepth 100000 in
theorem rises13_any (w : World) (bound : Nat) (A : Option Addr) (n c : Nat) (ls : List Nat) (hn : ls.length = n) (hN : n ≤ 3000000000) (ha : Row w w.heap.size A n 1 (numF .i64 ls)) :
    Calls Tryz.prog 142 #[.int .i64 bound, .slice A n c] w fun e w' => e = .returned (.bool (mayI bound none ls)) ∧ w' = w := by
  have HN := Lib.hid hn
  obtain ⟨R, hR⟩ : ∃ R, R = mayI bound none ls := ⟨_, rfl⟩
  have HR : Hid (R = mayI bound none (ls.drop 0)) := hR
  rw [← hR]
  clear hn hR
  go_enter Tryz.func142, Tryz.ntmps142
  go_wp2_with fail
  go_loopw [5, 10] (fun uv iv wx => ∃ (k : Nat) (u : Option Nat), k ≤ n ∧ iv = .int .i64 k ∧ uv = .int .i64 (wasV u) ∧ Hid (R = mayI bound u (ls.drop k)) ∧ wx = w) (fun _ iv _ => n - (intOf iv).toNat)
  case atStart => exact ⟨0, none, by omega, rfl, rfl, HR.out, rfl⟩
  case round =>
    obtain ⟨k, u, hk, rfl, rfl, HS, rfl⟩ := hrel
    by_cases hlt : k < n
    · have gk : decide ((k : Int) < (n : Int)) = true := by simp; omega
      have gk' : decide (k < n) = true := by simp; omega
      have x0 : (0 : Int) ≤ (k : Int) := by omega
      have x1 : (k : Int) < (n : Int) := by omega
      obtain ⟨b, off, x, rfl, _, hx, ck⟩ := num_cell ha HN.out hlt
      have hst := mayI_step (bound := bound) (u := u) hx
      rw [mayO_eq] at hst
      have hw : Hid (wasV (some x) = (x : Int)) := rfl
      have HW : Hid (Value.int .i64 (x : Nat) = .int .i64 (wasV (some x))) := rfl
      generalize wasV u = V at *
      by_cases h1 : (x : Int) ≤ V
      · have y1 : decide ((x : Int) ≤ V) = true := decide_eq_true h1
        rw [decide_eq_false (by omega : ¬ V < (x : Int)), Bool.and_false, Bool.false_and] at hst
        have hr : R = false := HS.out.trans hst
        subst hr
        clear HS hst hx HW h1 hw
        go_wp2_with fail
        go_ret
        exact ⟨rfl, rfl⟩
      · have y1 : decide ((x : Int) ≤ V) = false := decide_eq_false h1
        rw [decide_eq_true (by omega : V < (x : Int)), Bool.and_true] at hst
        by_cases h2 : (x : Int) < (bound : Int)
        · have y2 : decide ((bound : Int) ≤ (x : Int)) = false := decide_eq_false (by omega)
          have y2' : decide (bound ≤ x) = false := decide_eq_false (by omega)
          rw [decide_eq_true h2, Bool.true_and] at hst
          have HS2 : Hid (R = mayI bound (some x) (ls.drop (k + 1))) := HS.out.trans hst
          clear HS hst hx h1 h2 hw
          go_wp2_with fail
          go_roundw
          case measure => go_light; simp [intOf]; omega
          case rel => go_light; exact ⟨k + 1, some x, by omega, by first | rfl | go_num, HW.out, HS2.out, by first | rfl | trivial⟩
        · have y2 : decide ((bound : Int) ≤ (x : Int)) = true := decide_eq_true (by omega)
          have y2' : decide (bound ≤ x) = true := decide_eq_true (by omega)
          rw [decide_eq_false h2, Bool.false_and] at hst
          have hr : R = false := HS.out.trans hst
          subst hr
          clear HS hst hx HW h1 h2 hw
          go_wp2_with fail
          go_ret
          exact ⟨rfl, rfl⟩
    · obtain rfl : k = n := by omega
      have gk : decide ((k : Int) < (k : Int)) = false := by simp
      have gk' : decide (k < k) = false := by simp
      have hr : R = true := by rw [HS.out, List.drop_of_length_le (by rw [HN.out]; exact Nat.le_refl _)]; rfl
      subst hr
      clear HS HR hlt
      go_wp2_with fail
      go_ret
      exact ⟨rfl, rfl⟩
end Go.Proofs.YtcafklmbehoggaaGreatDoor.Ef
namespace Go.Proofs.YtcafklmbehoggaaGreatDoor.Ef
open Go.Proofs.YtcafklmbehoggaaGreatDoor.Huff (msb msb_length bytesOf)
theorem mayI_lt : ∀ (bound : Nat) (l : List Nat) (u : Option Nat), mayI bound u l = true → ∀ x ∈ l, x < bound
  | bound, [], _, _, x, hx => by cases hx
  | bound, y :: t, u, h, x, hx => by
    rw [mayI, Bool.and_eq_true] at h
    rcases List.mem_cons.1 hx with rfl | hx
    · have h1 := h.1
      unfold mayO at h1
      rw [Bool.and_eq_true, decide_eq_true_iff] at h1
      exact h1.1
    · exact mayI_lt bound t (some y) h.2 x hx
theorem mayI_rise : ∀ (bound : Nat) (l : List Nat) (u : Option Nat), mayI bound u l = true → ∀ (k x y : Nat), l[k]? = some x → l[k + 1]? = some y → x < y
  | bound, [], _, _, k, x, y, hx, _ => by simp at hx
  | bound, a :: t, u, h, k, x, y, hx, hy => by
    rw [mayI, Bool.and_eq_true] at h
    cases k with
    | zero =>
      simp only [List.getElem?_cons_zero, Option.some.injEq] at hx
      subst hx
      rw [List.getElem?_cons_succ] at hy
      cases t with
      | nil => simp at hy
      | cons b s =>
        simp only [List.getElem?_cons_zero, Option.some.injEq] at hy
        subst hy
        have h2 := h.2
        rw [mayI, Bool.and_eq_true] at h2
        have h3 := h2.1
        unfold mayO at h3
        rw [Bool.and_eq_true] at h3
        simpa using h3.2
    | succ k =>
      rw [List.getElem?_cons_succ] at hx hy
      exact mayI_rise bound t (some a) h.2 k x y hx hy
theorem mayI_of_rise : ∀ (bound : Nat) (l : List Nat) (u : Option Nat), (∀ x ∈ l, x < bound) → l.Pairwise (· < ·) → (∀ y, u = some y → ∀ x ∈ l, y < x) → mayI bound u l = true
  | _, [], _, _, _, _ => rfl
  | bound, x :: t, u, h1, h2, h3 => by
    rw [mayI, Bool.and_eq_true]
    rw [List.pairwise_cons] at h2
    refine ⟨?_, mayI_of_rise bound t (some x) (fun y hy => h1 y (List.mem_cons_of_mem _ hy)) h2.2 (fun y hy z hz => by injection hy with hy; rw [← hy]; exact h2.1 z hz)⟩
    unfold mayO
    rw [Bool.and_eq_true]
    refine ⟨decide_eq_true (h1 x List.mem_cons_self), ?_⟩
    cases u with
    | none => rfl
    | some y => exact decide_eq_true (h3 y rfl x List.mem_cons_self)
theorem lowsU_len (w : Nat) : ∀ l : List Nat, (lowsU w l).length = l.length * w
  | [] => by simp [lowsU]
  | x :: t => by
    have h := lowsU_len w t
    unfold lowsU at h ⊢
    rw [List.flatMap_cons, List.length_append, h, msb_length, List.length_cons, Nat.add_mul]
    omega
theorem last_div (P : Nat) {ls : List Nat} {j x : Nat} (hx : ls[j]? = some x) (hr : ∀ (k x y : Nat), ls[k]? = some x → ls[k + 1]? = some y → x < y) : ((ls.take j).map (· / P)).getLast?.getD 0 ≤ x / P := by
  cases j with
  | zero => simp
  | succ i =>
    obtain ⟨hl, _⟩ := List.getElem?_eq_some_iff.1 hx
    have hy : ls[i]? = some ls[i] := List.getElem?_eq_getElem (by omega)
    rw [List.take_add_one, hy]
    simp only [Option.toList_some, List.map_append, List.map_cons, List.map_nil, List.getLast?_append]
    exact Nat.div_le_div_right (Nat.le_of_lt (hr i _ _ hy hx))
theorem last_step (P : Nat) {ls : List Nat} {j x : Nat} (hx : ls[j]? = some x) : ((ls.take (j + 1)).map (· / P)).getLast?.getD 0 = x / P := by
  rw [List.take_add_one, hx]
  simp
theorem highsU_step (P : Nat) {ls : List Nat} {j x : Nat} (hx : ls[j]? = some x) : highsU 0 ((ls.take (j + 1)).map (· / P)) = highsU 0 ((ls.take j).map (· / P)) ++ unary (x / P - ((ls.take j).map (· / P)).getLast?.getD 0) := by
  rw [List.take_add_one, hx, Option.toList_some, List.map_append, List.map_cons, List.map_nil]
  exact highsU_snoc _ 0 (x / P)
end Go.Proofs.YtcafklmbehoggaaGreatDoor.Ef
namespace Go.Proofs.YtcafklmbehoggaaGreatDoor.Idx
open Go.RowKit Go.Proofs.YtcafklmbehoggaaGreatDoor.Mem Go.Proofs.YtcafklmbehoggaaGreatDoor.Own Go.Proofs.YtcafklmbehoggaaGreatDoor.Canon Go.Proofs.YtcafklmbehoggaaGreatDoor.Sift
theorem alikeS_drop {a b : Str} {k : Nat} (ha : k < a.length) (hb : k < b.length) : alikeS (a.drop k) (b.drop k) = if a[k] = b[k] then alikeS (a.drop (k + 1)) (b.drop (k + 1)) + 1 else 0 := by
  rw [List.drop_eq_getElem_cons ha, List.drop_eq_getElem_cons hb, alikeS]
theorem alikeS_end {a b : Str} {k : Nat} (h : a.length ≤ k ∨ b.length ≤ k) : alikeS (a.drop k) (b.drop k) = 0 := by
  rcases h with h | h
  · rw [List.drop_of_length_le h]
    cases b.drop k <;> rfl
  · rw [List.drop_of_length_le h]
    cases a.drop k <;> rfl
theorem byte_eq {a b : Str} {k : Nat} (ha : k < (bs a).size) (hb : k < (bs b).size) (ha' : k < a.length) (hb' : k < b.length) : ((((bs a)[k]'ha).toNat : Int) == (((bs b)[k]'hb).toNat : Int)) = decide (a[k]'ha' = b[k]'hb') := by
  have e1 : (bs a)[k]'ha = a[k]'ha' := bs_at a k ha
  have e2 : (bs b)[k]'hb = b[k]'hb' := bs_at b k hb
  rw [e1, e2]
  refine Bool.eq_iff_iff.2 ?_
  rw [beq_iff_eq, decide_eq_true_iff]
  constructor
  · intro h
    exact UInt8.toNat_inj.1 (by omega)
  · intro h
    rw [h]
set_option maxHeartbeats 1000000 in
set_option maxRecDepth 100000 in
theorem same16_any (w : World) (a b : Str) (haz : a.length ≤ 1000000) (hbz : b.length ≤ 1000000) :
    Calls Tryz.prog 198 #[.string (bs a), .string (bs b)] w fun e w' => e = .returned (.int .i64 (alikeS a b : Nat)) ∧ ∃ q, w' = w.drewN q := by
  have hza := bs_size a
  have hzb := bs_size b
  obtain ⟨R, hR⟩ : ∃ R, R = alikeS a b := ⟨_, rfl⟩
  have H0 : Hid (R = 0 + alikeS (a.drop 0) (b.drop 0)) := by show R = _; rw [hR, List.drop_zero, List.drop_zero, Nat.zero_add]
  rw [← hR]
  clear hR
  go_enter Tryz.func198, Tryz.ntmps198
  go_wp2_with fail
  go_loopw [5] (fun iv wx => ∃ k : Nat, k ≤ a.length ∧ k ≤ b.length ∧ iv = .int .i64 k ∧ Hid (R = k + alikeS (a.drop k) (b.drop k)) ∧ Hid (∃ q, wx = w.drewN q)) (fun iv _ => a.length - (intOf iv).toNat)
  case atStart => exact ⟨0, by omega, by omega, rfl, H0.out, 0, rfl⟩
  case round =>
    obtain ⟨k, hka, hkb, rfl, HS, HQ⟩ := hrel
    have HQ2 : Hid (∀ nq, ∃ q, wr.drewN nq = w.drewN q) := fun nq => by
      obtain ⟨q, hq⟩ := HQ.out
      exact ⟨_, by rw [hq]; exact World.drewN_drewN _ _ _⟩
    have x0 : (0 : Int) ≤ (k : Int) := by omega
    by_cases h1 : k < a.length
    · have g1 : decide ((k : Int) < (a.length : Int)) = true := by simp; omega
      have g1' : decide (k < a.length) = true := by simp; omega
      have x1 : (k : Int) < ((bs a).size : Int) := by omega
      have x1' : (k : Int) < (a.length : Int) := by omega
      by_cases h2 : k < b.length
      · have g2 : decide ((k : Int) < (b.length : Int)) = true := by simp; omega
        have g2' : decide (k < b.length) = true := by simp; omega
        have x2 : (k : Int) < ((bs b).size : Int) := by omega
        have x2' : (k : Int) < (b.length : Int) := by omega
        have he := byte_eq (by rw [hza]; exact h1) (by rw [hzb]; exact h2) h1 h2
        have hs := alikeS_drop h1 h2
        by_cases h3 : a[k] = b[k]
        · rw [decide_eq_true h3] at he
          rw [if_pos h3] at hs
          have HS2 : Hid (R = (k + 1) + alikeS (a.drop (k + 1)) (b.drop (k + 1))) := by
            show R = _
            rw [HS.out, hs]
            omega
          clear hs HS h3 HQ
          go_wp2_with fail
          go_quiet (fail)
          go_wp2_with fail
          go_roundw
          case measure => go_light; simp [intOf]; omega
          case rel => go_light; exact ⟨k + 1, by omega, by omega, by first | rfl | go_num, HS2.out, HQ2.out _⟩
        · rw [decide_eq_false h3] at he
          rw [if_neg h3] at hs
          have hr : R = k := by rw [HS.out, hs]; omega
          subst hr
          clear hs HS h3 HQ
          go_wp2_with fail
          go_quiet (fail)
          go_wp2_with fail
          go_ret
          exact ⟨rfl, HQ2.out _⟩
      · have g2 : decide ((k : Int) < (b.length : Int)) = false := by simp; omega
        have g2' : decide (k < b.length) = false := by simp; omega
        have hr : R = k := by rw [HS.out, alikeS_end (.inr (by omega))]; omega
        subst hr
        clear HS HQ
        go_wp2_with fail
        go_quiet (fail)
        go_wp2_with fail
        go_ret
        exact ⟨rfl, HQ2.out _⟩
    · have g1 : decide ((k : Int) < (a.length : Int)) = false := by simp; omega
      have g1' : decide (k < a.length) = false := by simp; omega
      have hr : R = k := by rw [HS.out, alikeS_end (.inl (by omega))]; omega
      subst hr
      clear HS HQ
      go_wp2_with fail
      go_quiet (fail)
      go_wp2_with fail
      go_ret
      exact ⟨rfl, HQ2.out _⟩
end Go.Proofs.YtcafklmbehoggaaGreatDoor.Idx
namespace Go.Proofs.YtcafklmbehoggaaGreatDoor.Ef
open Go.RowKit Go.Proofs.YtcafklmbehoggaaGreatDoor.Mem Go.Proofs.YtcafklmbehoggaaGreatDoor.Own Go.Proofs.YtcafklmbehoggaaGreatDoor.Canon Go.Proofs.YtcafklmbehoggaaGreatDoor.Toks
set_option maxRecDepth 100000 in
theorem width_any (w : World) (bound n : Nat) (h1 : 1 ≤ n) (h2 : n ≤ bound) (hb : bound ≤ 1000000) :
    Calls Tryz.prog 143 #[.int .i64 bound, .int .i64 n] w fun e w' => e = .returned (.int .i64 (efW bound n : Nat)) ∧ w' = w := by
  have hq : 1 ≤ bound / n := (Nat.one_le_div_iff (by omega)).2 h2
  have hql : bound / n ≤ bound := Nat.div_le_self _ _
  have D := bits_len ((bound / n : Nat) : Int) w (by omega) (by omega)
  have hl : lg ((bound / n : Nat) : Int) = (efW bound n : Nat) := rfl
  rw [hl] at D
  have hll : efW bound n ≤ bound := by
    unfold efW
    have := Nat.log2_le_self (bound / n)
    omega
  have hn0 : ¬ (n : Int) = 0 := by omega
  have hn1 : ((n : Int) == 0) = false := by simpa using (by omega : ¬ n = 0)
  have u1 : IntKind.u64.wrap ((bound / n : Nat) : Int) = ((bound / n : Nat) : Int) := by rw [IntKind.wrap_u64]; omega
  have u2 : IntKind.i64.wrap ((bound / n : Nat) : Int) = ((bound / n : Nat) : Int) := IntWalk.i64_in _ (by omega)
  have u3 : IntKind.i64.wrap ((efW bound n : Int) + 1 - 1) = ((efW bound n : Nat) : Int) := by rw [IntWalk.i64_in _ (by omega)]; omega
  have ud : Int.tdiv (bound : Int) (n : Int) = ((bound / n : Nat) : Int) := by rw [Int.tdiv_eq_ediv_of_nonneg (by omega)]; rfl
  have DD := Lib.hid D
  clear D hl
  go_enter Tryz.func143, Tryz.ntmps143
  go_wp2_with fail
  refine DD.out.mono ?_
  rintro e w' ⟨rfl, rfl⟩
  go_wp2_with fail
  go_ret
  exact ⟨rfl, rfl⟩
end Go.Proofs.YtcafklmbehoggaaGreatDoor.Ef
