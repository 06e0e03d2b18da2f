/-
  The walk of the statement ToksMay.
-/
import Derived.Test.YtdfpcnldfibceaaToksRead3
import Derived.Test.YtdfpcnldfibceaaToksLaws
import Derived.Test.YtdfpcnldfibceaaOpenNums
namespace Go.Proofs.Ytdfpcnldfibceaa.Huff
open Go.RowKit Go.Proofs.Ytdfpcnldfibceaa.Mem Go.Proofs.Ytdfpcnldfibceaa.Canon Go.Proofs.Ytdfpcnldfibceaa.Own
open Go.Proofs.Ytdfpcnldfibceaa.Toks (Tk Pc joinT joinE pw mayB alive11 ref_may)

theorem toksGo_len (ls lf : List Nat) (bs : List Bool) : ∀ (f : Nat) (most : Int) (out : List Tk) (at_ : Nat), (toksGo ls lf bs f most out at_).1.length ≤ out.length + f
  | 0, _, _, _ => by rw [toksGo]; simp
  | f + 1, most, out, at_ => by
    rw [toksGo]
    split
    · simp
    · split
      · split
        · show out.length ≤ _; omega
        · simp
      · split
        · simp
        · have := toksGo_len ls lf bs f (most - max 1 (tokenR ls lf bs at_).1.len) (out ++ [(tokenR ls lf bs at_).1]) (tokenR ls lf bs at_).2.2.2
          rw [List.length_append, List.length_singleton] at this
          omega
theorem readToks_len (lb : List Nat) (most : Int) : (readToks lb most).1.length ≤ 8 * lb.length + 1 := by
  unfold readToks
  split
  · simp
  · split
    · simp
    · split
      · simp
      · have := toksGo_len (readGo (rbits lb) 265 266 [] false 0).1 (readGo (rbits lb) 12 13 [] false (readGo (rbits lb) 265 266 [] false 0).2.2).1 (rbits lb) ((rbits lb).length + 1) most [] (readGo (rbits lb) 12 13 [] false (readGo (rbits lb) 265 266 [] false 0).2.2).2.2
        rw [rbits_length] at this
        rw [rbits_length]
        simp at this
        omega
def tkd : Tk := ⟨0, 0, 0⟩
def tkF (ts : List Tk) : Nat → Nat → Value := fun i j => match j with
  | 0 => .int .u8 (ts.getD i tkd).lit
  | 1 => .int .i64 (ts.getD i tkd).len
  | _ => .int .i64 (ts.getD i tkd).dist
theorem tksL_get : ∀ (ts : List Tk) (i j : Nat), i < ts.length → j < 3 → (tksL ts)[i * 3 + j]? = some (tkF ts i j)
  | [], i, j, h, _ => by simp at h
  | t :: ts, 0, j, _, hj => by
    obtain rfl | rfl | rfl : j = 0 ∨ j = 1 ∨ j = 2 := by omega
    all_goals rfl
  | t :: ts, i + 1, j, h, hj => by
    have := tksL_get ts i j (by simpa using h) hj
    show (_ :: _ :: _ :: tksL ts)[(i + 1) * 3 + j]? = _
    rw [show (i + 1) * 3 + j = (i * 3 + j) + 1 + 1 + 1 by omega, List.getElem?_cons_succ, List.getElem?_cons_succ, List.getElem?_cons_succ, this]
    rfl
theorem sizeT_le : ∀ (ts : List Tk), (∀ t ∈ ts, MayTk t) → sizeT ts ≤ 257 * ts.length ∧ (ts.length : Int) ≤ sizeT ts
  | [], _ => by simp [sizeT]
  | t :: ts, h => by
    have := sizeT_le ts (fun u hu => h u (by simp [hu]))
    obtain ⟨_, _, h3, h4⟩ := h t (by simp)
    rw [sizeT, List.length_cons]
    omega
theorem law_may_long (w : World) (A : Option Addr) (n c : Nat) (most : Int) (_hn : n ≤ 9223372036854775807) (h3 : (3000 : Int) < (n : Int)) :
    Calls Try.prog 25 #[.slice A n c, .int .i64 most] w fun e w' => e = .returned (.bool true) ∧ Below w.heap.size w w' := by
  go_enter Try.func25, Try.ntmps25
  go_wp2_with fail
  refine (alive11 _).mono ?_
  rintro e w1 ⟨rfl, hb1⟩
  go_wp2_with fail
  go_ret
  exact ⟨rfl, hb1⟩
theorem tread_all (w : World) (A : Option Addr) (n c : Nat) (lb : List Nat) (most : Int) (hm : -9223372036854775808 ≤ most ∧ most ≤ 9223372036854775807) (hn : lb.length = n) (hN : n ≤ 100000) (h8 : ∀ x ∈ lb, x ≤ 255) (hnil : A = none → n = 0 ∧ c = 0) (ha : Row w w.heap.size A n 1 (numF .u8 lb)) :
    Calls Try.prog 78 #[.slice A n c, .int .i64 most] w (TRPost (readToks lb most) w) := by
  by_cases h : most < 0
  · exact tread_neg w _ lb most hm.1 h
  · exact tread_any w A n c lb most (by omega) hm.2 hn hN h8 hnil ha

set_option maxHeartbeats 1000000 in
set_option maxRecDepth 100000 in
theorem law_may (w : World) (A : Option Addr) (n c : Nat) (lb : List Nat) (most : Int) (hm : -9223372036854775808 ≤ most ∧ most ≤ 9223372036854775807) (hn : lb.length = n) (hN : n ≤ 3000) (h8 : ∀ x ∈ lb, x ≤ 255) (hnil : A = none → n = 0 ∧ c = 0) (ha : Row w w.heap.size A n 1 (numF .u8 lb)) :
    Calls Try.prog 25 #[.slice A n c, .int .i64 most] w fun e w' => e = .returned (.bool true) ∧ Below w.heap.size w w' := by
  have C1 := fun wx (h : Below w.heap.size w wx) => tread_all wx A n c lb most hm hn (by omega) h8 hnil ((ha.below h).mono h.size)
  have hlen := readToks_len lb most
  have hmay := readToks_may lb most
  rw [hn] at hlen
  unfold TRPost at C1
  generalize readToks lb most = R at C1 hlen hmay
  obtain ⟨ts, e⟩ := R
  simp only at C1 hlen hmay
  obtain ⟨hm1, hm2⟩ := hm
  have C1 := Lib.hid C1
  clear hn h8 hnil ha
  by_cases he : e = 0
  · subst he
    obtain ⟨hall, hsz⟩ := hmay.1 rfl
    clear hmay
    obtain ⟨N, hN2⟩ : ∃ N, N = ts.length := ⟨_, rfl⟩
    have hs0 := (sizeT_le ts hall).2
    rw [← hN2] at C1 hlen hs0
    go_enter Try.func25, Try.ntmps25
    go_wp2_with fail
    refine (alive11 _).mono ?_
    rintro e w1 ⟨rfl, hb1⟩
    have z1 := hb1.size
    go_wp2_with fail
    refine (C1.out _ hb1).mono ?_
    rintro e w2 ⟨v, rfl, hown, hb2⟩
    have hb2 : Below w.heap.size w w2 := bel_step hb2 z1 hb1
    obtain ⟨va, vc, rfl⟩ := own_shape hown
    have hrow : Row w2 w2.heap.size va N 3 (tkF ts) := Row.of_own hown rfl (fun i j hi hj => tksL_get ts i j (by omega) hj)
    have HALL := Lib.hid hall
    have HN := Lib.hid hN2
    clear hown hall hN2 C1 hb1
    go_wp2_with fail
    go_loopw [7, 8] (fun s i wr => ∃ k : Nat, k ≤ N ∧ i = .int .i64 k ∧ s = .int .i64 (sizeT (ts.take k)) ∧ Below w2.heap.size w2 wr) (fun _ i _ => N - (intOf i).toNat)
    case atStart => exact ⟨0, by omega, rfl, rfl, Below.refl _ _⟩
    case round =>
      obtain ⟨k, hk, rfl, rfl, hbel⟩ := hrel
      have HB := Lib.hid hbel
      by_cases hlt : k < N
      · obtain ⟨b, off, rfl, hbb, hcell⟩ := hrow (by omega)
        have hkl : k < ts.length := by rw [← HN.out]; exact hlt
        have hmt := HALL.out ts[k] (List.getElem_mem hkl)
        have e0 := hcell k 0 hlt (by omega)
        have e1 := hcell k 1 hlt (by omega)
        have e2 := hcell k 2 hlt (by omega)
        simp only [tkF, List.getD_eq_getElem?_getD, List.getElem?_eq_getElem hkl, Option.getD_some, Nat.add_zero, ← Nat.add_assoc] at e0 e1 e2
        have c0 := (hbel.cell (p := ⟨b, off + k * 3, none⟩) hbb).trans e0
        have c1 := (hbel.cell (p := ⟨b, off + k * 3 + 1, none⟩) hbb).trans e1
        have c2 := (hbel.cell (p := ⟨b, off + k * 3 + 2, none⟩) hbb).trans e2
        have hst : sizeT (ts.take (k + 1)) = sizeT (ts.take k) + max 1 ts[k].len := by rw [List.take_succ_eq_append_getElem hkl, sizeT_snoc]
        have hbd := sizeT_le (ts.take k) (fun t ht => HALL.out t (List.mem_of_mem_take ht))
        have hlk : (ts.take k).length = k := by simp; omega
        rw [hlk] at hbd
        have D1 := fun w => ref_may ts[k] w
        generalize ts[k] = t at *
        obtain ⟨hmb, ⟨l0, l1⟩, l2, l3⟩ := hmt
        rw [hmb] at D1
        obtain ⟨lit, len, dist⟩ := t
        obtain ⟨S, hS⟩ : ∃ S, S = sizeT (ts.take k) := ⟨_, rfl⟩
        rw [← hS] at hst hbd
        rw [← hS]
        simp only [Toks.Tk.val] at D1 c0 c1 c2 hst l0 l1 l2 l3
        have HST := Lib.hid hst
        have D1 := Lib.hid D1
        have hwl := hbel.size
        clear hst hmb hS hlk e0 e1 e2 hcell hkl hrow hbel
        have hk3 : k ≤ 24000 := by omega
        by_cases hl : 0 < len
        · go_wp2_with fail
          refine (D1.out _).mono ?_
          rintro e w3 ⟨rfl, hb3⟩
          have d1 := (hb3.cell (p := ⟨b, off + k * 3 + 1, none⟩) (show b < wr.heap.size by omega)).trans c1
          clear D1 c0 c1 c2
          go_wp2_with fail
          go_roundw
          case measure => go_light; simp [intOf]; omega
          case rel =>
            go_light
            refine ⟨k + 1, by omega, by go_num, ?_, HB.out.trans (hb3.mono (by omega))⟩
            rw [HST.out, show max 1 len = len by omega]
            congr 1
            omega
        · obtain rfl : len = 0 := by omega
          go_wp2_with fail
          refine (D1.out _).mono ?_
          rintro e w3 ⟨rfl, hb3⟩
          have d1 := (hb3.cell (p := ⟨b, off + k * 3 + 1, none⟩) (show b < wr.heap.size by omega)).trans c1
          clear D1 c0 c1 c2
          go_wp2_with fail
          go_roundw
          case measure => go_light; simp [intOf]; omega
          case rel =>
            go_light
            refine ⟨k + 1, by omega, by go_num, ?_, HB.out.trans (hb3.mono (by omega))⟩
            rw [HST.out]
            rfl
      · obtain rfl : k = N := by omega
        rw [HN.out, List.take_length]
        go_wp2_with fail
        go_ret
        exact ⟨by simp, hb2.trans (HB.out.mono hb2.size)⟩
  · have hb : (e != 0) = true := bne_iff_ne.mpr he
    obtain rfl := hmay.2 he
    clear hmay he
    go_enter Try.func25, Try.ntmps25
    go_wp2_with fail
    refine (alive11 _).mono ?_
    rintro e w1 ⟨rfl, hb1⟩
    have z1 := hb1.size
    go_wp2_with fail
    refine (C1.out _ hb1).mono ?_
    rintro e w2 ⟨v, rfl, hown, hb2⟩
    obtain ⟨va, vc, rfl⟩ := own_shape hown
    clear hown
    go_wp2_with fail
    go_ret
    exact ⟨by simp, bel_step hb2 z1 hb1⟩
end Go.Proofs.Ytdfpcnldfibceaa.Huff
