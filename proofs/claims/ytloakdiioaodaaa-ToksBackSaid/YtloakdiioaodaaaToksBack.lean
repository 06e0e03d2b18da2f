/-
  The walk of the statement ToksBack.
-/
import Derived.Test.YtloakdiioaodaaaToksWriteW
import Derived.Test.YtloakdiioaodaaaToksBackPlain
import Derived.Test.YtloakdiioaodaaaToksMS
import Derived.Test.YtloakdiioaodaaaToksAlive
namespace Go.Proofs.Ytloakdiioaodaaa.Huff
open Go.RowKit Go.Proofs.Ytloakdiioaodaaa.Mem Go.Proofs.Ytloakdiioaodaaa.Canon Go.Proofs.Ytloakdiioaodaaa.Own
open Go.Proofs.Ytloakdiioaodaaa.Toks (Tk alive11 mayB)

theorem own_bytes3 {w : World} {base c n : Nat} {A : Option Addr} {ls : List Nat} (ho : w.ownsRow base 5 1 (.slice A n c) ls.length (numL .u8 ls)) : ls.length = n ∧ Row w w.heap.size A n 1 (numF .u8 ls) ∧ (A = none → n = 0 ∧ c = 0) := by
  have hn : ls.length = n := by
    rcases ho.2 with ⟨hv, hx⟩ | ⟨g, cap, cur, hv, _⟩
    · injection hv with _ e _
      exact hx.trans e.symm
    · injection hv with _ e _
      exact e.symm
  rw [hn] at ho
  exact ⟨hn, Row.of_own ho rfl (fun i j hi hj => by have e0 : j = 0 := (by omega); subst e0; exact numL_get (by omega)), (own_wf ho).1⟩
theorem writeO_le2 (ts : List Tk) : ∀ x ∈ TW.writeO ts, x ≤ 255 := by
  intro x hx
  unfold TW.writeO at hx
  split at hx
  · unfold bytesOf at hx
    obtain ⟨k, _, rfl⟩ := List.mem_map.1 hx
    exact byteAt_le _ _
  · cases hx
set_option maxHeartbeats 1000000 in
/-- Size: how many bytes tokens have. -/
theorem size_any (w : World) (A : Option Addr) (n c : Nat) (ts : List Tk) (hn : ts.length = n) (hN : n ≤ 2000) (hall : ∀ t ∈ ts, MayTk t) (ha : Row w w.heap.size A n 3 (tkF ts)) :
    Calls Try.prog 16 #[.slice A n c, .int .i64 1073741824] w fun e w' => e = .returned (.int .i64 (sizeT ts)) ∧ Below w.heap.size w w' := by
  have HN := Lib.hid hn
  have HALL := Lib.hid hall
  clear hn hall
  go_enter Try.func16, Try.ntmps16
  go_wp2_with fail
  go_loopw [5, 6] (fun s i wr => ∃ k : Nat, k ≤ n ∧ i = .int .i64 k ∧ s = .int .i64 (sizeT (ts.take k)) ∧ Below w.heap.size w wr) (fun _ i _ => n - (intOf i).toNat)
  case atStart => exact ⟨0, by omega, rfl, rfl, Below.refl _ _⟩
  case round =>
    obtain ⟨k, hk, rfl, rfl, hbel⟩ := hrel
    have HB := Lib.hid hbel
    by_cases hlt : k < n
    · obtain ⟨b, off, rfl, hbb, hcell⟩ := ha (by omega)
      have hkl : k < ts.length := by rw [HN.out]; exact hlt
      have hmt := HALL.out ts[k] (List.getElem_mem hkl)
      have e1 := hcell k 1 hlt (by omega)
      simp only [tkF, List.getD_eq_getElem?_getD, List.getElem?_eq_getElem hkl, Option.getD_some, ← Nat.add_assoc] at e1
      have c1 := (hbel.cell (p := ⟨b, off + k * 3 + 1, none⟩) hbb).trans e1
      have hst : sizeT (ts.take (k + 1)) = sizeT (ts.take k) + max 1 ts[k].len := by rw [List.take_succ_eq_append_getElem hkl, sizeT_snoc]
      have hbd := sizeT_le (ts.take k) (fun t ht => HALL.out t (List.mem_of_mem_take ht))
      have hlk : (ts.take k).length = k := by simp; omega
      rw [hlk] at hbd
      generalize ts[k] = t at *
      obtain ⟨hmb, ⟨l0, l1⟩, l2, l3⟩ := hmt
      obtain ⟨lit, len, dist⟩ := t
      obtain ⟨S, hS⟩ : ∃ S, S = sizeT (ts.take k) := ⟨_, rfl⟩
      rw [← hS] at hst hbd
      rw [← hS]
      simp only at c1 hst l0 l1 l2 l3
      have HST := Lib.hid hst
      have hwl := hbel.size
      clear hst hmb hS hlk e1 hcell hkl ha hbel
      by_cases hl : 0 < len
      · go_wp2_with fail
        go_roundw
        case measure => go_light; simp [intOf]; omega
        case rel =>
          go_light
          refine ⟨k + 1, by omega, by go_num, ?_, HB.out⟩
          rw [HST.out, show max 1 len = len by omega]
      · obtain rfl : len = 0 := by omega
        go_wp2_with fail
        go_roundw
        case measure => go_light; simp [intOf]; omega
        case rel =>
          go_light
          refine ⟨k + 1, by omega, by go_num, ?_, HB.out⟩
          rw [HST.out]
          first | rfl | (congr 1; omega)
    · obtain rfl : k = n := by omega
      rw [← HN.out, List.take_length]
      go_wp2_with fail
      go_ret
      exact ⟨rfl, HB.out⟩
theorem law_back_long (w : World) (A : Option Addr) (n c : Nat) (_hn : n ≤ 9223372036854775807) (h3 : (2000 : Int) < (n : Int)) :
    Calls Try.prog 6 #[.slice A n c] w fun e w' => e = .returned (.bool true) ∧ Below w.heap.size w w' := by
  go_enter Try.func6, Try.ntmps6
  go_wp2_with fail
  refine (alive11 _).mono ?_
  rintro e w1 ⟨rfl, hb1⟩
  go_wp2_with fail
  go_ret
  exact ⟨rfl, hb1⟩
theorem mayTk_of {t : Tk} (h1 : 0 ≤ t.lit ∧ t.lit ≤ 255) (h2 : mayB t.lit t.len t.dist = true) : MayTk t := by
  refine ⟨h2, h1, ?_⟩
  unfold mayB at h2
  by_cases h0 : t.len = 0
  · omega
  · rw [if_neg h0] at h2
    have := of_decide_eq_true h2
    omega
theorem bits_len {ts : List Tk} (hok : Toks.allOk ts = true) (hN : ts.length ≤ 2000) : (TW.writeO ts).length ≤ 100000 := by
  unfold TW.writeO
  split
  · rw [bytesOf_length]
    unfold TW.writeBits
    have h1 := TW.wrBits_length (TW.lsS ts)
    have h2 := TW.wrBits_length (TW.lsF ts)
    have h3 := TW.toks_length (ls := TW.lsS ts) (lf := TW.lsF ts) (ok_parts (TW.lsS_ok ts)).2.1 (ok_parts (TW.lsF_ok ts)).2.1 hok
    have h4 := word_length (TW.lsS ts) 256
    have h5 := TW.getD_le (ok_parts (TW.lsS_ok ts)).2.1 256
    rw [TW.lsS_length] at h1
    rw [TW.lsF_length] at h2
    simp only [List.length_append]
    omega
  · simp
theorem tkF_tokF (ts : List Tk) : tkF ts = Toks.tokF ts := by
  funext i j
  match j with
  | 0 => rfl
  | 1 => rfl
  | _ + 2 => rfl
set_option maxHeartbeats 1000000 in
set_option maxRecDepth 100000 in
theorem law_back_bad (w : World) (A : Option Addr) (n c : Nat) (ts : List Tk) (hn : ts.length = n) (hN : n ≤ 2000) (hlit : ∀ t ∈ ts, 0 ≤ t.lit ∧ t.lit ≤ 255) (ha : Row w w.heap.size A n 3 (Toks.tokF ts)) (hok : Toks.allOk ts = false) :
    Calls Try.prog 6 #[.slice A n c] w fun e w' => e = .returned (.bool true) ∧ Below w.heap.size w w' := by
  have C1 := fun wx (h : Below w.heap.size w wx) => twrite_all wx A n c ts hn (by omega) hlit ((ha.below h).mono h.size)
  have hE : TW.writeE ts = 7 := by unfold TW.writeE; rw [if_neg (by omega), if_neg (by rw [hok]; simp)]
  have hO : TW.writeO ts = [] := by unfold TW.writeO; rw [hE]; rfl
  unfold TWPost at C1
  rw [hE, hO] at C1
  have C1 := Lib.hid C1
  clear hn hlit ha hE hO hok
  go_enter Try.func6, Try.ntmps6
  go_wp2_with fail
  refine (alive11 _).mono ?_
  rintro e w1 ⟨rfl, hb1⟩
  go_wp2_with fail
  refine (C1.out _ hb1).mono ?_
  rintro e w2 ⟨v2, rfl, hv2, hb2⟩
  have z1 := hb1.size
  have hbel2 : Below w.heap.size w w2 := bel_step hb2 z1 hb1
  obtain ⟨A2, c2, rfl⟩ := own_shape hv2
  clear hv2
  go_wp2_with fail
  go_ret
  exact ⟨by simp, hbel2⟩
set_option maxHeartbeats 1000000 in
set_option maxRecDepth 100000 in
theorem law_back_ok (w : World) (A : Option Addr) (n c : Nat) (ts : List Tk) (hn : ts.length = n) (hN : n ≤ 2000) (hlit : ∀ t ∈ ts, 0 ≤ t.lit ∧ t.lit ≤ 255) (ha : Row w w.heap.size A n 3 (Toks.tokF ts)) (hok : Toks.allOk ts = true) :
    Calls Try.prog 6 #[.slice A n c] w fun e w' => e = .returned (.bool true) ∧ Below w.heap.size w w' := by
  have C1 := fun wx (h : Below w.heap.size w wx) => twrite_all wx A n c ts hn (by omega) hlit ((ha.below h).mono h.size)
  have hE : TW.writeE ts = 0 := by unfold TW.writeE; rw [if_neg (by omega), if_pos hok]
  have hO : TW.writeO ts = bytesOf (TW.writeBits ts) := by unfold TW.writeO; rw [hE]; rfl
  have hmay : ∀ t ∈ ts, MayTk t := fun t ht => mayTk_of (hlit t ht) (by unfold Toks.allOk at hok; exact List.all_eq_true.1 hok t ht)
  have hrw := fun m => TW.read_write hlit hok m
  have hlen := bits_len hok (by omega)
  have h8 := writeO_le2 ts
  have hsz := sizeT_le ts hmay
  rw [hn] at hsz
  rw [← hO] at hrw
  unfold TWPost at C1
  rw [hE] at C1
  have haT : Row w w.heap.size A n 3 (tkF ts) := by rw [tkF_tokF]; exact ha
  have C2 := Lib.hid (fun wx (h : Below w.heap.size w wx) => size_any wx A n c ts hn hN hmay ((haT.below h).mono h.size))
  have C1 := Lib.hid C1
  have HRW := Lib.hid hrw
  have H8 := Lib.hid h8
  have HN := Lib.hid hn
  have HT := Lib.hid haT
  generalize TW.writeO ts = lb at *
  have hs0 : (0 : Int) ≤ sizeT ts := by omega
  have hs1 : sizeT ts ≤ 1000000 := by omega
  have hr1 := hrw (sizeT ts)
  rw [if_neg (by omega), if_pos (Int.le_refl _)] at hr1
  have hr2 := hrw (sizeT ts - 1)
  have HLEN := Lib.hid hlen
  obtain ⟨N, hNN⟩ : ∃ N, N = sizeT ts := ⟨_, rfl⟩
  rw [← hNN] at hs0 hs1 hr1 hr2 C2
  rw [if_neg (show ¬ N ≤ N - 1 by omega)] at hr2
  have D1 := fun wx (va : Option Addr) (vn vc : Nat) h1 h2 h3 => tread_all wx va vn vc lb N (by omega) h1 (by rw [← h1]; exact HLEN.out) H8.out h2 h3
  have D2 := fun wx (va : Option Addr) (vn vc : Nat) h1 h2 h3 => tread_all wx va vn vc lb (N - 1) (by omega) h1 (by rw [← h1]; exact HLEN.out) H8.out h2 h3
  rw [hr1] at D1
  rw [hr2] at D2
  unfold TRPost at D1 D2
  simp only [HN.out] at D1
  have D1 := Lib.hid D1
  have D2 := Lib.hid D2
  have x1 : IntKind.i64.wrap (N - 1) = N - 1 := by rw [IntKind.wrap_i64]; omega
  clear hn hlit ha hE hO hok hmay hrw hlen h8 hsz haT hr1 hr2 hNN HRW
  go_enter Try.func6, Try.ntmps6
  go_wp2_with fail
  refine (alive11 _).mono ?_
  rintro e w1 ⟨rfl, hb1⟩
  go_wp2_with fail
  refine (C1.out _ hb1).mono ?_
  rintro e w2 ⟨v2, rfl, hv2, hb2⟩
  have z1 := hb1.size
  have hbel2 : Below w.heap.size w w2 := bel_step hb2 z1 hb1
  have z2 := hb2.size
  obtain ⟨A2, c2, rfl⟩ := own_shape hv2
  have q2 := Lib.hid (own_bytes3 hv2)
  generalize lb.length = L at *
  clear hv2 C1 hb1 hb2
  go_wp2_with fail
  refine (C2.out _ hbel2).mono ?_
  rintro e w3 ⟨rfl, hb3⟩
  have hbel3 : Below w.heap.size w w3 := bel_step hb3 (by omega) hbel2
  have z3 := hb3.size
  have q3 := (q2.out.2.1.below hb3).mono hb3.size
  have D1 := Lib.hid (D1.out w3 A2 L c2 rfl q2.out.2.2 q3)
  have Q3 := Lib.hid q3
  clear q3 hb3 hbel2 C2
  go_wp2_with fail
  refine D1.out.mono ?_
  rintro e w4 ⟨v4, rfl, hv4, hb4⟩
  have hbel4 : Below w.heap.size w w4 := bel_step hb4 (by omega) hbel3
  have z4 := hb4.size
  have q4 := (Q3.out.below hb4).mono hb4.size
  have Q4 := Lib.hid q4
  obtain ⟨A4, c4, rfl⟩ := own_shape hv4
  have hrow : Row w4 w4.heap.size A4 n 3 (tkF ts) := Row.of_own hv4 rfl (fun i j hi hj => tksL_get ts i j (by rw [HN.out]; exact hi) hj)
  have C3 := Lib.hid (same_toks w4 A4 A n c4 c _ _ ts HN.out (by omega) hrow (HT.out.below hbel4))
  have HB4 := Lib.hid hbel4
  clear hv4 hrow q4 D1 hb4 hbel3 Q3 hbel4
  go_wp2_with fail
  refine C3.out.mono ?_
  rintro e w5 ⟨rfl, q, rfl⟩
  have q5 : Row (w4.drewN q) (w4.drewN q).heap.size A2 _ 1 (numF .u8 lb) := Q4.out
  have D2 := D2.out (w4.drewN q) A2 L c2 rfl q2.out.2.2 q5
  have HB5 : Hid (Below w.heap.size w (w4.drewN q)) := below_drewN HB4.out q
  clear q5 C3
  by_cases hneg : N - 1 < 0
  · obtain rfl : N = 0 := by omega
    rw [if_pos hneg] at D2
    have D2 := Lib.hid D2
    clear hneg
    go_wp2_with fail
    refine D2.out.mono ?_
    rintro e w6 ⟨v6, rfl, hv6, hb6⟩
    obtain ⟨A6, c6, rfl⟩ := own_shape hv6
    have hbz : Below w.heap.size w w6 := HB5.out.trans (hb6.mono HB5.out.size)
    clear hv6 hb6
    go_wp2_with fail
    go_ret
    exact ⟨by simp, hbz⟩
  · rw [if_neg hneg] at D2
    have D2 := Lib.hid D2
    have n0 : (N == 0) = false := by simp; omega
    have n1 : decide (0 < N) = true := by simp; omega
    clear hneg
    go_wp2_with fail
    refine D2.out.mono ?_
    rintro e w6 ⟨v6, rfl, hv6, hb6⟩
    obtain ⟨A6, c6, rfl⟩ := own_shape hv6
    have hbz : Below w.heap.size w w6 := HB5.out.trans (hb6.mono HB5.out.size)
    clear hv6 hb6
    go_wp2_with fail
    go_ret
    exact ⟨by simp, hbz⟩
theorem law_back (w : World) (A : Option Addr) (n c : Nat) (ts : List Tk) (hn : ts.length = n) (hN : n ≤ 2000) (hlit : ∀ t ∈ ts, 0 ≤ t.lit ∧ t.lit ≤ 255) (ha : Row w w.heap.size A n 3 (Toks.tokF ts)) :
    Calls Try.prog 6 #[.slice A n c] w fun e w' => e = .returned (.bool true) ∧ Below w.heap.size w w' := by
  cases hok : Toks.allOk ts
  · exact law_back_bad w A n c ts hn hN hlit ha hok
  · exact law_back_ok w A n c ts hn hN hlit ha hok
end Go.Proofs.Ytloakdiioaodaaa.Huff
