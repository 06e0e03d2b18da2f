/-
  Rows of texts: what a part of one leads to; the walk of the reference's Put. A record's terms by the document: the walks of the reference's Terms, Has and Same of texts. Rows of texts: the walks of the reference's Has and Same. Two rows of texts: the walk of the reference's Same.
-/
import Derived.Test.YtcafklmbehoggaaGreatDoorZBodyNone12
import Derived.Test.YtcafklmbehoggaaGreatDoorZBodyNone3
import Derived.BigQuiet
import Derived.Deep.QuietTactic
namespace Go.Proofs.YtcafklmbehoggaaGreatDoor.Idx
open Go.RowKit Go.Proofs.YtcafklmbehoggaaGreatDoor.Mem Go.Proofs.YtcafklmbehoggaaGreatDoor.Own Go.Proofs.YtcafklmbehoggaaGreatDoor.Canon Go.Proofs.YtcafklmbehoggaaGreatDoor.Sift
section
variable {w : World} {base n c s : Nat} {e : TypeId} {A : Option Addr} {xs : List Value}
theorem own_addr (h : w.ownsRow base e 1 (.slice A n c) n xs) : n ≤ c ∧ ∀ a, A = some a → a.add 0 = a := by
  rcases h.2 with ⟨hv, h0⟩ | ⟨g, cap, cur, hv, _, _, hc, _⟩
  · injection hv with e1 e2 e3
    subst e1 e2 e3
    exact ⟨Nat.le_refl _, fun a ha => by cases ha⟩
  · injection hv with e1 e2 e3
    subst e1 e3
    exact ⟨hc, fun a ha => by injection ha with ha; subst ha; exact Mem.add_none _ _ _⟩
end
theorem strL_get {l : List Str} {i : Nat} {x : Str} (h : l[i]? = some x) : (strL l)[i]? = some (.string (bs x)) := by simp [strL, h]
theorem strL_app (a b : List Str) : strL (a ++ b) = strL a ++ strL b := by simp [strL]
theorem strL_len (a : List Str) : (strL a).length = a.length := by simp [strL]
theorem str_lt (x s : Str) : Op.bytesLess (bs x).toList (bs s).toList = decide (x < s) := by rw [ByteArray.toList_eq, ByteArray.toList_eq, bs_list, bs_list, bytesLess_eq]
theorem str_eq (x s : Str) : ((bs x).toList == (bs s).toList) = decide (x = s) := by
  rw [ByteArray.toList_eq, ByteArray.toList_eq, bs_list, bs_list]
  exact Bool.eq_iff_iff.2 (by simp)
end Go.Proofs.YtcafklmbehoggaaGreatDoor.Idx
namespace Go.Proofs.YtcafklmbehoggaaGreatDoor.Idx
open Go.RowKit Go.Proofs.YtcafklmbehoggaaGreatDoor.Mem Go.Proofs.YtcafklmbehoggaaGreatDoor.Own Go.Proofs.YtcafklmbehoggaaGreatDoor.Canon Go.Proofs.YtcafklmbehoggaaGreatDoor.Sift
theorem putS_len (s : Str) : ∀ l, (putS l s).length ≤ l.length + 1
  | [] => by simp [putS]
  | x :: t => by
    have := putS_len s t
    rw [putS]
    split
    · simp only [List.length_cons]; omega
    · split <;> simp
theorem putAll_len : ∀ (l acc : List Str), (putAll acc l).length ≤ acc.length + l.length
  | [], acc => by simp [putAll]
  | x :: t, acc => by
    have h1 := putAll_len t (putS acc x)
    have h2 := putS_len x acc
    unfold putAll at h1 ⊢
    rw [List.foldl_cons, List.length_cons]
    omega
theorem split_small : ∀ (l row : List UInt8), ∀ x ∈ split row l, 1 ≤ x.length ∧ x.length ≤ 24
  | [], row, x, hx => by
    rw [split] at hx
    unfold tell at hx
    split at hx
    · cases hx
    · rename_i h
      have := List.length_pos_iff.2 h
      obtain rfl : x = row.take 24 := by simpa using hx
      rw [List.length_take]
      omega
  | c :: t, row, x, hx => by
    rw [split] at hx
    split at hx
    · exact split_small t _ x hx
    · rcases List.mem_append.1 hx with hx | hx
      · exact split_small [] row x (by rw [split]; exact hx)
      · exact split_small t [] x hx
theorem words_small (l : List UInt8) : ∀ x ∈ words l, 1 ≤ x.length ∧ x.length ≤ 24 := split_small l []
end Go.Proofs.YtcafklmbehoggaaGreatDoor.Idx
namespace Go.Proofs.YtcafklmbehoggaaGreatDoor.Idx
open Go.RowKit Go.Proofs.YtcafklmbehoggaaGreatDoor.Mem Go.Proofs.YtcafklmbehoggaaGreatDoor.Own Go.Proofs.YtcafklmbehoggaaGreatDoor.Canon Go.Proofs.YtcafklmbehoggaaGreatDoor.Sift
def strF (ls : List Str) (i _j : Nat) : Value := .string (bs (ls.getD i []))
theorem strF_get (l : List Str) (i j : Nat) (hi : i < l.length) (hj : j < 1) : (strL l)[i * 1 + j]? = some (strF l i j) := by
  obtain rfl : j = 0 := by omega
  rw [Nat.mul_one, Nat.add_zero]
  unfold strF
  rw [List.getD_eq_getElem?_getD, List.getElem?_eq_getElem hi]
  exact strL_get (List.getElem?_eq_getElem hi)
theorem own_strs {w : World} {base n c : Nat} {A : Option Addr} {l : List Str} (h : w.ownsRow base 9 1 (.slice A n c) n (strL l)) : Row w w.heap.size A n 1 (strF l) :=
  Row.of_own h rfl fun i j hi hj => strF_get l i j (by have := h.1; rw [strL_len] at this; omega) hj
theorem Row.str {w : World} {B n : Nat} {A : Option Addr} {l : List Str} (h : Row w B A n 1 (strF l)) (hn : l.length = n) {k : Nat} (hk : k < n) :
    ∃ b off x, A = some ⟨b, off, none⟩ ∧ b < B ∧ l[k]? = some x ∧ w.cell? ⟨b, off + k, none⟩ = some (.string (bs x)) := by
  obtain ⟨b, off, rfl, hb, hc⟩ := h (by omega)
  have c0 := hc k 0 hk (by omega)
  rw [Nat.mul_one, Nat.add_zero] at c0
  unfold strF at c0
  rw [List.getD_eq_getElem?_getD, List.getElem?_eq_getElem (show k < l.length by omega)] at c0
  exact ⟨b, off, _, rfl, hb, List.getElem?_eq_getElem (by omega), c0⟩
end Go.Proofs.YtcafklmbehoggaaGreatDoor.Idx
namespace Go.Proofs.YtcafklmbehoggaaGreatDoor.Idx
open Go.RowKit Go.Proofs.YtcafklmbehoggaaGreatDoor.Mem Go.Proofs.YtcafklmbehoggaaGreatDoor.Own Go.Proofs.YtcafklmbehoggaaGreatDoor.Canon Go.Proofs.YtcafklmbehoggaaGreatDoor.Sift
set_option maxHeartbeats 1000000 in
set_option maxRecDepth 100000 in
theorem rsame15_any (w : World) (A A2 : Option Addr) (n n2 c c2 : Nat) (ls ms : List Str) (hn : ls.length = n) (hn2 : ms.length = n2) (hN : n ≤ 3000000000) (ha : Row w w.heap.size A n 1 (strF ls)) (ha2 : Row w w.heap.size A2 n2 1 (strF ms)) :
    Calls Tryz.prog 60 #[.slice A n c, .slice A2 n2 c2] w fun e w' => e = .returned (.bool (decide (ls = ms))) ∧ ∃ q, w' = w.drewN q := by
  have HN := Lib.hid hn
  have HN2 := Lib.hid hn2
  have HY : Hid (n = n2 → (∀ i, i < n → ls.getD i [] = ms.getD i []) → decide (ls = ms) = true) := fun he h => decide_eq_true (List.ext_getElem (by omega) fun i h1 h2 => by
    have := h i (by omega)
    rwa [List.getD_eq_getElem?_getD, List.getD_eq_getElem?_getD, List.getElem?_eq_getElem h1, List.getElem?_eq_getElem h2] at this)
  have HNO : Hid (∀ (i : Nat) x y, ls[i]? = some x → ms[i]? = some y → x ≠ y → decide (ls = ms) = false) := fun i x y hx hy hne => decide_eq_false fun e => by
    rw [e, hy] at hx
    injection hx with hx
    exact hne hx.symm
  have HNL : Hid (n ≠ n2 → decide (ls = ms) = false) := fun hne => decide_eq_false fun e => by rw [e] at hn; omega
  generalize decide (ls = ms) = R at *
  clear hn hn2
  by_cases he : n = n2
  · have z1 : ((n : Int) != (n2 : Int)) = false := by simp; omega
    have z1' : (n != n2) = false := by simpa using he
    clear HNL
    go_enter Tryz.func60, Tryz.ntmps60
    go_wp2_with fail
    go_loopw [5] (fun iv wx => ∃ k : Nat, k ≤ n ∧ iv = .int .i64 k ∧ Hid (∀ i, i < k → ls.getD i [] = ms.getD i []) ∧ Hid (∃ q, wx = w.drewN q)) (fun iv _ => n - (intOf iv).toNat)
    case atStart => exact ⟨0, by omega, rfl, fun i h => absurd h (by omega), 0, rfl⟩
    case round =>
      obtain ⟨k, hk, rfl, HS, HQ⟩ := hrel
      by_cases hlt : k < n
      · have gk : decide ((k : Int) < (n : Int)) = true := by simp; omega
        have gk' : decide (k < n) = true := by simp; omega
        have x0 : (0 : Int) ≤ (k : Int) := by omega
        have x1 : (k : Int) < (n : Int) := by omega
        have x2 : (k : Int) < (n2 : Int) := by omega
        have har : Row wr w.heap.size A n 1 (strF ls) := by obtain ⟨q, hq⟩ := HQ.out; rw [hq]; exact ha
        have har2 : Row wr w.heap.size A2 n2 1 (strF ms) := by obtain ⟨q, hq⟩ := HQ.out; rw [hq]; exact ha2
        obtain ⟨b, off, x, rfl, _, hx, ck⟩ := Row.str har HN.out hlt
        obtain ⟨b2, off2, y, rfl, _, hy, ck2⟩ := Row.str har2 HN2.out (show k < n2 by omega)
        have HQ2 : Hid (∀ nq, ∃ q, wr.drewN nq = w.drewN q) := fun nq => by
          obtain ⟨q, hq⟩ := HQ.out
          exact ⟨_, by rw [hq]; exact World.drewN_drewN _ _ _⟩
        by_cases hxy : x = y
        · have ge : ((bs x).toList == (bs y).toList) = true := by rw [str_eq]; simpa using hxy
          have HS2 : Hid (∀ i, i < k + 1 → ls.getD i [] = ms.getD i []) := fun i h => by
            by_cases e : i < k
            · exact HS.out i e
            · obtain rfl : i = k := by omega
              rw [List.getD_eq_getElem?_getD, List.getD_eq_getElem?_getD, hx, hy, hxy]
          clear HS hx hy hxy HQ he
          go_wp2_with fail
          go_quiet (fail)
          go_wp2_with fail
          go_roundw
          case measure => go_light; simp [intOf]; omega
          case rel => go_light; exact ⟨k + 1, by omega, by first | rfl | go_num, HS2.out, HQ2.out _⟩
        · have ge : ((bs x).toList == (bs y).toList) = false := by rw [str_eq]; simpa using hxy
          obtain rfl := HNO.out k x y hx hy hxy
          clear HS HY HNO hx hy hxy HQ he
          go_wp2_with fail
          go_quiet (fail)
          go_wp2_with fail
          go_ret
          exact ⟨rfl, HQ2.out _⟩
      · obtain rfl : k = n := by omega
        have gk : decide ((k : Int) < (k : Int)) = false := by simp
        have gk' : decide (k < k) = false := by simp
        obtain rfl := HY.out he HS.out
        clear HS HY HNO hlt he
        go_wp2_with fail
        go_ret
        exact ⟨rfl, HQ.out⟩
  · have z1 : ((n : Int) != (n2 : Int)) = true := by simp; omega
    have z1' : (n != n2) = true := by simpa using he
    obtain rfl := HNL.out he
    clear HY HNO HNL he
    go_enter Tryz.func60, Tryz.ntmps60
    go_wp2_with fail
    go_ret
    exact ⟨rfl, 0, rfl⟩
end Go.Proofs.YtcafklmbehoggaaGreatDoor.Idx
