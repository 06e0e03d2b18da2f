/-
  The walk of the law BlockBounds.
  Plain: a frame that was written is read back; cut off anywhere it is not read. No walk.
  Plain: what block.Write writes is read; cut off anywhere it is not. No walk.
  The walk of the law BlockCut.
  The walk of the law BlockBack.
-/
import Derived.Test.YtloakdiioaodaaaDoorBlockW
import Derived.Test.YtloakdiioaodaaaDoorBlockR
import Derived.Test.YtloakdiioaodaaaDoorToksBackPlain

namespace Go.Proofs.YtloakdiioaodaaaDoor.Block
open Go.RowKit Go.Proofs.YtloakdiioaodaaaDoor.Mem Go.Proofs.YtloakdiioaodaaaDoor.Own Go.Proofs.YtloakdiioaodaaaDoor.Canon
open Go.Proofs.YtloakdiioaodaaaDoor.Nums Go.Proofs.YtloakdiioaodaaaDoor.Crc

theorem takeE_zero {bs : List Nat} {at_ n : Nat} {er : Int} (h : takeE bs at_ er n = 0) : er = 0 ∧ n ≤ bs.length - at_ := by
  unfold takeE at h
  split at h
  · contradiction
  · rename_i h0
    split at h
    · cases h
    · exact ⟨by simpa using h0, by omega⟩
theorem op_zero {bs : List Nat} (h : opE bs = 0) : hE8 bs = 0 ∧ hE5 bs = 0 ∧ hP bs ≤ bs.length ∧ hN bs ≤ 1032 * hP bs + 64 ∧ byE (hWay bs) (hN bs) (hP bs) (hBody bs) = 0 := by
  unfold opE at h
  split at h
  · contradiction
  · rename_i h8
    have h8 : hE8 bs = 0 := by simpa using h8
    refine ⟨h8, ?_⟩
    unfold hE8 at h8
    split at h8
    · contradiction
    · rename_i h7
      have h7 : hE7 bs = 0 := by simpa using h7
      have h6 := (takeE_zero h7).1
      have h5 := takeE_zero h6
      refine ⟨h5.1, by omega, ?_, h⟩
      have h55 := h5.1
      unfold hE5 at h55
      split at h55
      · exfalso
        unfold failE at h55
        split at h55
        · cases h55
        · contradiction
      · omega
theorem op_bounds {bs : List Nat} (h8 : ∀ x ∈ bs, x ≤ 255) (h : opE bs = 0) : opA bs ≤ bs.length ∧ (opO bs).length ≤ 1032 * bs.length + 64 ∧ (opO bs).length ≤ 32768 := by
  obtain ⟨_, _, h3, h4, h5⟩ := op_zero h
  have hNl := hN_le h8
  have hA : opA bs = hA5 bs := if_neg (by rw [h]; simp)
  have hO : opO bs = byO (hWay bs) (hN bs) (hP bs) (hBody bs) := if_neg (by rw [h]; simp)
  have hl : (opO bs).length ≤ hN bs := by
    rw [hO]
    unfold byO
    rw [if_neg (by rw [h5]; simp)]
    by_cases hw : hWay bs = 0
    · rw [if_pos hw]
      unfold byE at h5
      rw [if_pos hw] at h5
      split at h5
      · cases h5
      · have := takeO_le bs (hA3 bs) (hE5 bs) (hP bs)
        unfold hBody
        omega
    · rw [if_neg hw]
      exact play_len _ _
  exact ⟨by rw [hA]; exact hA5_le h8, by omega, by omega⟩
theorem row_head {w : World} {A : Option Addr} {n : Nat} {ls : List Nat} (h : Row w w.heap.size A n 1 (numF .u8 ls)) (h0 : 0 < n) : ∀ a, A = some a → a.add 0 = a ∧ a.block < w.heap.size := by
  intro a ha
  obtain ⟨b, off, rfl, hb, _⟩ := h h0
  injection ha with ha
  subst ha
  exact ⟨by rw [Mem.add_none, Nat.add_zero], hb⟩
set_option maxRecDepth 100000 in
theorem law_bounds_long (w : World) (A : Option Addr) (n c : Nat) (hn : n ≤ 9223372036854775807) (h : 40000 < n) (ht : TabAt w) :
    Calls Tryd.prog 6 #[.slice A n c] w fun e w' => e = .returned (.bool true) ∧ Below w.heap.size w w' := by
  have D := Lib.hid (alive12 w ht)
  have g1 : decide ((40000 : Int) < (n : Int)) = true := by simp; omega
  have g1' : decide (40000 < n) = true := by simp; omega
  clear ht
  go_enter Tryd.func6, Tryd.ntmps6
  go_wp2_with fail
  refine D.out.mono ?_
  rintro e w1 ⟨rfl, hb⟩
  go_wp2_with fail
  go_ret
  exact ⟨rfl, hb⟩
set_option maxHeartbeats 1000000 in
set_option maxRecDepth 100000 in
theorem law_bounds (w : World) (A : Option Addr) (n c : Nat) (bs : List Nat) (hn : bs.length = n) (hle : n ≤ 40000) (hc : n ≤ c) (hnil : A = none → n = 0 ∧ c = 0) (h8 : ∀ x ∈ bs, x ≤ 255) (ht : TabAt w) (ha : Row w w.heap.size A n 1 (numF .u8 bs)) :
    Calls Tryd.prog 6 #[.slice A n c] w fun e w' => e = .returned (.bool true) ∧ Below w.heap.size w w' := by
  have D := Lib.hid (alive12 w ht)
  have D1 : Hid (∀ wx, Below w.heap.size w wx → Calls Tryd.prog 11 #[.slice A n c] wx (ReadPost bs wx)) := fun wx hb =>
    have hr := (ha.below hb).mono hb.size
    read_any wx bs A n c hn (by omega) hc hnil (fun h0 => row_head hr (by omega)) h8 (ht.step hb) hr
  unfold ReadPost at D1
  have g1 : decide ((40000 : Int) < (n : Int)) = false := by simp; omega
  have g1' : decide (40000 < n) = false := by simp; omega
  by_cases h0 : opE bs = 0
  · obtain ⟨hb1, hb2, hb3⟩ := op_bounds h8 h0
    rw [h0] at D1
    rw [hn] at hb1 hb2
    generalize opA bs = a at *
    generalize opO bs = O at *
    have g2 : decide ((a : Int) ≤ (n : Int)) = true := by simp; omega
    have g2' : decide (a ≤ n) = true := by simp; omega
    obtain ⟨q, hq⟩ : ∃ q, q = 1032 * n := ⟨_, rfl⟩
    obtain ⟨r, hr⟩ : ∃ r, r = 1032 * n + 64 := ⟨_, rfl⟩
    have s1 : IntKind.i64.wrap (1032 * (n : Int)) = (q : Int) := by rw [IntWalk.i64_in _ (by omega)]; omega
    have s2 : IntKind.i64.wrap ((q : Int) + 64) = (r : Int) := by rw [IntWalk.i64_in _ (by omega)]; omega
    have g3 : decide ((O.length : Int) ≤ (r : Int)) = true := by simp; omega
    have g3' : decide (O.length ≤ r) = true := by simp; omega
    have g4 : decide ((O.length : Int) ≤ 32768) = true := by simp; omega
    have g4' : decide (O.length ≤ 32768) = true := by simp; omega
    clear hn h8 ht ha hnil h0 hq hr
    go_enter Tryd.func6, Tryd.ntmps6
    go_wp2_with fail
    refine D.out.mono ?_
    rintro e w1 ⟨rfl, hb⟩
    have D2 := Lib.hid (D1.out w1 hb)
    clear D D1
    go_wp2_with fail
    refine D2.out.mono ?_
    rintro e w2 ⟨v, rfl, ho, hb4⟩
    obtain ⟨A2, c2, rfl⟩ := own_shape ho
    have HB : Hid (Below w.heap.size w w2) := bel_step0 hb4 hb
    clear ho hb hb4 D2
    go_wp2_with fail
    go_ret
    exact ⟨rfl, HB.out⟩
  · have hO : opO bs = [] := if_pos h0
    have hA : opA bs = 0 := if_pos h0
    rw [hO, hA] at D1
    generalize opE bs = E at *
    have g2 : (E != 0) = true := by simpa using h0
    clear hn h8 ht ha hnil h0 hO hA
    go_enter Tryd.func6, Tryd.ntmps6
    go_wp2_with fail
    refine D.out.mono ?_
    rintro e w1 ⟨rfl, hb⟩
    have D2 := Lib.hid (D1.out w1 hb)
    clear D D1
    go_wp2_with fail
    refine D2.out.mono ?_
    rintro e w2 ⟨v, rfl, ho, hb4⟩
    obtain ⟨A2, c2, rfl⟩ := own_shape ho
    have HB : Hid (Below w.heap.size w w2) := bel_step0 hb4 hb
    clear ho hb hb4 D2
    go_wp2_with fail
    go_ret
    exact ⟨rfl, HB.out⟩
end Go.Proofs.YtloakdiioaodaaaDoor.Block

namespace Go.Proofs.YtloakdiioaodaaaDoor.Block
open Go.Proofs.YtloakdiioaodaaaDoor.NumPut Go.Proofs.YtloakdiioaodaaaDoor.Crc Go.Proofs.YtloakdiioaodaaaDoor.Nums

theorem scan_numB : ∀ (x i acc : Nat) (rest : List Nat), i + (numB x).length ≤ 9 → (0 < i → 0 < x) → scanP (numB x ++ rest) i acc = (acc + x * 2 ^ (7 * i), i + (numB x).length, 0) := by
  intro x
  induction x using Nat.strongRecOn with
  | _ x ih =>
    intro i acc rest hl hi
    by_cases h : x < 128
    · rw [numB_low h] at hl ⊢
      simp only [List.length_singleton] at hl
      rw [List.cons_append, List.nil_append, scanP, if_neg (by omega), if_pos h, Nat.mod_eq_of_lt h]
      rfl
    · rw [numB_high h] at hl ⊢
      simp only [List.length_cons] at hl
      rw [List.cons_append, scanP, if_neg (by omega), if_neg (by omega), ih (x / 128) (by omega) (i + 1) _ rest (by omega) (by omega)]
      have e1 : (x % 128 + 128) % 128 = x % 128 := by omega
      have e2 : 2 ^ (7 * (i + 1)) = 128 * 2 ^ (7 * i) := by rw [show 7 * (i + 1) = 7 * i + 7 by omega, Nat.pow_add]; omega
      have e3 : x * 2 ^ (7 * i) = x % 128 * 2 ^ (7 * i) + x / 128 * (128 * 2 ^ (7 * i)) := by
        rw [← Nat.mul_assoc, ← Nat.add_mul]
        congr 1
        omega
      rw [e1, e2, e3, List.length_cons]
      simp only [Prod.mk.injEq, and_true]
      omega
theorem scan_short : ∀ (x i acc j : Nat), i + (numB x).length ≤ 9 → (0 < i → 0 < x) → j < (numB x).length → scanP ((numB x).take j) i acc = (0, 0, 1) := by
  intro x
  induction x using Nat.strongRecOn with
  | _ x ih =>
    intro i acc j hl hi hj
    cases j with
    | zero => rfl
    | succ j =>
      by_cases h : x < 128
      · rw [numB_low h] at hj; simp at hj
      · rw [numB_high h] at hl hj ⊢
        simp only [List.length_cons] at hl hj
        rw [List.take_succ_cons, scanP, if_neg (by omega), if_neg (by omega), ih (x / 128) (by omega) (i + 1) _ j (by omega) (by omega) (by omega)]
theorem numB_len3 {x : Nat} (h : x ≤ 2097151) : (numB x).length ≤ 3 := by
  by_cases h1 : x < 128
  · rw [numB_low h1]; simp
  · rw [numB_high h1, List.length_cons]
    by_cases h2 : x / 128 < 128
    · rw [numB_low h2]; simp
    · rw [numB_high h2, numB_low (by omega)]; simp
theorem lim_numB {x : Nat} (h : x ≤ 32768) (rest : List Nat) : limP 32768 (numB x ++ rest) = (x, (numB x).length, 0) := by
  have hl := numB_len3 (x := x) (by omega)
  unfold limP
  rw [scan_numB x 0 0 rest (by omega) (by omega)]
  simp
  omega
theorem lim_short {x j : Nat} (h : x ≤ 32768) (hj : j < (numB x).length) : limP 32768 ((numB x).take j) = (0, 0, 1) := by
  have hl := numB_len3 (x := x) (by omega)
  unfold limP
  rw [scan_short x 0 0 j (by omega) (by omega) hj]
  simp
section
variable {T : List Nat} {way n p : Nat} {body t4 r1 r2 r3 r4 r5 : List Nat}
theorem st1 (h : T = way :: r1) (hw : way ≤ 1) : hWay T = way ∧ hA1 T = 1 ∧ hE2 T = 0 := by
  subst h
  have h1 : hWay (way :: r1) = way := rfl
  have h2 : hE1 (way :: r1) = 0 := by unfold hE1; rw [takeE0]; simp
  refine ⟨h1, ?_, ?_⟩
  · unfold hA1; rw [takeA0]; simp
  · unfold hE2; rw [h1, h2, if_neg (by omega)]
theorem st2 (h : T = way :: (numB n ++ r2)) (hw : way ≤ 1) (hn : n ≤ 32768) : hN T = n ∧ hA2 T = 1 + (numB n).length ∧ hE3 T = 0 := by
  obtain ⟨_, h2, h3⟩ := st1 h hw
  have hd : T.drop 1 = numB n ++ r2 := by rw [h]; rfl
  refine ⟨?_, ?_, ?_⟩
  · unfold hN intV; rw [h2, h3, hd, lim_numB hn]; simp
  · unfold hA2 intA; rw [h2, h3, hd, lim_numB hn]; simp
  · unfold hE3 intE; rw [h2, h3, hd, lim_numB hn]; simp
theorem st3 (h : T = way :: (numB n ++ (numB p ++ r3))) (hw : way ≤ 1) (hn : n ≤ 32768) (hp : p ≤ 32768) (hnp : n ≤ 1032 * p + 64) : hP T = p ∧ hA3 T = 1 + (numB n).length + (numB p).length ∧ hE5 T = 0 := by
  obtain ⟨h1, h2, h3⟩ := st2 h hw hn
  have hd : T.drop (1 + (numB n).length) = numB p ++ r3 := by rw [h, Nat.add_comm, List.drop_succ_cons, List.drop_left]
  have h4 : hP T = p := by unfold hP intV; rw [h2, h3, hd, lim_numB hp]; simp
  refine ⟨h4, ?_, ?_⟩
  · unfold hA3 intA; rw [h2, h3, hd, lim_numB hp]; simp
  · have h5 : hE4 T = 0 := by unfold hE4 intE; rw [h2, h3, hd, lim_numB hp]; simp
    unfold hE5
    rw [h4, h1, if_neg (by omega), h5]
theorem st4 (h : T = way :: (numB n ++ (numB p ++ (body ++ r4)))) (hw : way ≤ 1) (hn : n ≤ 32768) (hp : p ≤ 32768) (hnp : n ≤ 1032 * p + 64) (hb : body.length = p) : hBody T = body ∧ hA4 T = 1 + (numB n).length + (numB p).length + p ∧ hE6 T = 0 := by
  obtain ⟨h1, h2, h3⟩ := st3 h hw hn hp hnp
  have hd : T.drop (1 + (numB n).length + (numB p).length) = body ++ r4 := by
    rw [h, show 1 + (numB n).length + (numB p).length = ((numB n).length + (numB p).length) + 1 by omega, List.drop_succ_cons, ← List.drop_drop, List.drop_left, List.drop_left]
  have hl : T.length = 1 + (numB n).length + (numB p).length + p + r4.length := by rw [h]; simp; omega
  refine ⟨?_, ?_, ?_⟩
  · unfold hBody; rw [h1, h2, h3, take0, if_neg (by omega), hd, ← hb, List.take_left]
  · unfold hA4; rw [h1, h2, h3, takeA0, if_neg (by omega)]
  · unfold hE6; rw [h1, h2, h3, takeE0, if_neg (by omega)]
theorem st5 (h : T = way :: (numB n ++ (numB p ++ (body ++ (t4 ++ r5))))) (hw : way ≤ 1) (hn : n ≤ 32768) (hp : p ≤ 32768) (hnp : n ≤ 1032 * p + 64) (hb : body.length = p) (ht : t4.length = 4) : hA5 T = 1 + (numB n).length + (numB p).length + p + 4 ∧ hE7 T = 0 := by
  obtain ⟨_, h2, h3⟩ := st4 h hw hn hp hnp hb
  have hl : T.length = 1 + (numB n).length + (numB p).length + p + 4 + r5.length := by rw [h]; simp; omega
  refine ⟨?_, ?_⟩
  · unfold hA5; rw [h2, h3, takeA0, if_neg (by omega)]
  · unfold hE7; rw [h2, h3, takeE0, if_neg (by omega)]
end
end Go.Proofs.YtloakdiioaodaaaDoor.Block

namespace Go.Proofs.YtloakdiioaodaaaDoor.Block
open Go.Proofs.YtloakdiioaodaaaDoor.NumPut Go.Proofs.YtloakdiioaodaaaDoor.Crc Go.Proofs.YtloakdiioaodaaaDoor.Nums
open Go.Proofs.YtloakdiioaodaaaDoor.Toks (Tk mayB)
open Go.Proofs.YtloakdiioaodaaaDoor.Huff (sizeT readToks word word_length bytesOf bytesOf_length)

theorem size_find (l : List Nat) : ∀ at_, sizeT (Lz.findFrom l at_) = ((l.length - at_ : Nat) : Int) := by
  refine Lz.findFrom_ind (l := l) (fun at_ h => ?_) (fun at_ h h3 ih => ?_) (fun at_ h h3 ih => ?_)
  · rw [Lz.findFrom_end h, sizeT]; omega
  · have := Lz.bestR_fits (l := l) (at_ := at_) (by omega)
    rw [Lz.findFrom_match h h3, sizeT, ih]
    simp only
    omega
  · rw [Lz.findFrom_lit h h3, sizeT, ih]
    simp only
    omega
theorem size_bits {ls lf : List Nat} : ∀ {ts : List Tk}, (∀ t ∈ ts, mayB t.lit t.len t.dist = true ∧ ls.getD (Toks.splitP t).sym.toNat 0 ≠ 0 ∧ (t.len ≠ 0 → lf.getD (Toks.splitP t).dist.toNat 0 ≠ 0)) → sizeT ts ≤ 129 * ((ts.flatMap (TW.tokB ls lf)).length : Int)
  | [], _ => by simp [sizeT]
  | t :: ts, h => by
    obtain ⟨h0, h1, h2⟩ := h t (by simp)
    have ih := size_bits (ls := ls) (lf := lf) (ts := ts) (fun x hx => h x (List.mem_cons_of_mem _ hx))
    rw [List.flatMap_cons, List.length_append, sizeT]
    have hw := word_length ls (Toks.splitP t).sym.toNat
    have hl : max 1 t.len ≤ 129 * ((TW.tokB ls lf t).length : Int) := by
      unfold TW.tokB
      by_cases hz : t.len = 0
      · rw [if_pos hz, List.append_nil, hw, hz]
        omega
      · have h3 := h2 hz
        have hw2 := word_length lf (Toks.splitP t).dist.toNat
        unfold mayB at h0
        rw [if_neg hz] at h0
        have h0 := of_decide_eq_true h0
        rw [if_neg hz]
        simp only [List.length_append, hw, hw2]
        omega
    push_cast
    omega
theorem sq_back {bs : List Nat} (h8 : ∀ x ∈ bs, x ≤ 255) (hz : sqz bs = true) : (sqO bs).length < bs.length ∧ bs.length ≤ 1032 * (sqO bs).length + 64 ∧ readToks (sqO bs) bs.length = (Lz.find bs, 0) := by
  unfold sqz at hz
  simp only [Bool.and_eq_true, beq_iff_eq, decide_eq_true_eq] at hz
  obtain ⟨hE, hl⟩ := hz
  have hok : Toks.allOk (Lz.find bs) = true := by
    unfold sqE TW.writeE at hE
    split at hE
    · cases hE
    · split at hE
      · assumption
      · cases hE
  have hlit : ∀ t ∈ Lz.find bs, 0 ≤ t.lit ∧ t.lit ≤ 255 := fun t ht => ((Lz.find_ok h8 0).1 t ht).1
  have hO : sqO bs = bytesOf (TW.writeBits (Lz.find bs)) := by unfold sqO TW.writeO; exact if_pos hE
  have hsz : sizeT (Lz.find bs) = (bs.length : Int) := size_find bs 0
  have hts : ∀ t ∈ Lz.find bs, mayB t.lit t.len t.dist = true ∧ (TW.lsS (Lz.find bs)).getD (Toks.splitP t).sym.toNat 0 ≠ 0 ∧ (t.len ≠ 0 → (TW.lsF (Lz.find bs)).getD (Toks.splitP t).dist.toNat 0 ≠ 0) := by
    intro t ht
    have hok2 := hok
    unfold Toks.allOk at hok2
    have hm := List.all_eq_true.1 hok2 t ht
    obtain ⟨S, D, L, F, hsp, hS, hD, _⟩ := Toks.sym_nat t (hlit t ht).1 (hlit t ht).2 hm
    have e1 : (Toks.splitP t).sym.toNat = S := by rw [hsp]; rfl
    have e2 : (Toks.splitP t).dist.toNat = D := by rw [hsp]; rfl
    exact ⟨hm, TW.syms_pos ht (by omega), fun h0 => TW.fars_pos ht h0 (by omega)⟩
  have hb := size_bits hts
  have hbl : ((Lz.find bs).flatMap (TW.tokB (TW.lsS (Lz.find bs)) (TW.lsF (Lz.find bs)))).length ≤ (TW.writeBits (Lz.find bs)).length := by unfold TW.writeBits; simp only [List.length_append]; omega
  have hbb := bytesOf_length (TW.writeBits (Lz.find bs))
  rw [← hO] at hbb
  refine ⟨hl, by omega, ?_⟩
  rw [hO, TW.read_write hlit hok, if_neg (by omega), if_pos (by omega)]
theorem fway_le (bs : List Nat) (plain : Bool) : fWay bs plain ≤ 1 := by unfold fWay; split <;> omega
theorem fbody_facts {bs : List Nat} (plain : Bool) (h8 : ∀ x ∈ bs, x ≤ 255) : (fBody bs plain).length ≤ bs.length ∧ bs.length ≤ 1032 * (fBody bs plain).length + 64 ∧ byE (fWay bs plain) bs.length (fBody bs plain).length (fBody bs plain) = 0 ∧ byO (fWay bs plain) bs.length (fBody bs plain).length (fBody bs plain) = bs := by
  unfold fBody fWay
  cases hc : (!plain && sqz bs)
  · simp only [Bool.false_eq_true, if_false]
    have h0 : byE 0 bs.length bs.length bs = 0 := by unfold byE; simp
    refine ⟨Nat.le_refl _, by omega, h0, ?_⟩
    unfold byO
    rw [h0]
    simp
  · simp only [if_true]
    have hz : sqz bs = true := by
      cases hz : sqz bs
      · rw [hz, Bool.and_false] at hc; cases hc
      · rfl
    obtain ⟨h1, h2, h3⟩ := sq_back h8 hz
    have hp : Lz.play (Lz.find bs) (bs.length : Int) = (bs, 0) := Lz.play_find h8 (by omega)
    have h0 : byE 1 bs.length (sqO bs).length (sqO bs) = 0 := by unfold byE; rw [h3, if_neg (by omega)]; simp only; rw [hp]; simp
    refine ⟨by omega, by omega, h0, ?_⟩
    unfold byO
    rw [h0, h3, if_neg (by simp), if_neg (by omega)]
    simp only
    rw [hp]
theorem tail4 (s : Nat) : (tailN s).length = 4 := rfl
theorem frame_eq (bs : List Nat) (plain : Bool) (more : List Nat) : frameB bs plain ++ more = fWay bs plain :: (numB bs.length ++ (numB (fBody bs plain).length ++ (fBody bs plain ++ (tailN (sumN (fAll bs plain)) ++ more)))) := by
  unfold frameB fAll fHead
  simp
theorem fall_len (bs : List Nat) (plain : Bool) : (fAll bs plain).length = 1 + (numB bs.length).length + (numB (fBody bs plain).length).length + (fBody bs plain).length := by
  unfold fAll fHead
  simp
  omega
theorem frame_len (bs : List Nat) (plain : Bool) : (frameB bs plain).length = (fAll bs plain).length + 4 := by
  unfold frameB
  rw [List.length_append]
  rfl
theorem frame_back {bs : List Nat} (plain : Bool) (more : List Nat) (h8 : ∀ x ∈ bs, x ≤ 255) (hN : bs.length ≤ 32768) :
    opE (frameB bs plain ++ more) = 0 ∧ opO (frameB bs plain ++ more) = bs ∧ opA (frameB bs plain ++ more) = (frameB bs plain).length := by
  obtain ⟨b1, b2, b3, b4⟩ := fbody_facts plain h8
  have hw := fway_le bs plain
  have he := frame_eq bs plain more
  obtain ⟨T, hT⟩ : ∃ T, T = frameB bs plain ++ more := ⟨_, rfl⟩
  rw [← hT] at he ⊢
  obtain ⟨s1, _, _⟩ := st1 he hw
  obtain ⟨s2, _, _⟩ := st2 he hw hN
  obtain ⟨s3, _, _⟩ := st3 he hw hN (by omega) b2
  obtain ⟨s4, _, _⟩ := st4 he hw hN (by omega) b2 rfl
  obtain ⟨s5, s7⟩ := st5 he hw hN (by omega) b2 rfl (tail4 _)
  have hl : hA5 T = (frameB bs plain).length := by rw [s5, frame_len, fall_len]
  have h88 : hE8 T = 0 := by
    unfold hE8
    rw [s7, if_neg (by simp), hl, hT, List.take_left]
    unfold cutE
    have e1 : (frameB bs plain).length - 4 = (fAll bs plain).length := by rw [frame_len]; omega
    rw [e1, if_neg (by rw [frame_len]; omega)]
    have e2 : (frameB bs plain).take (fAll bs plain).length = fAll bs plain := by unfold frameB; exact List.take_left
    have e3 : (frameB bs plain).drop (fAll bs plain).length = tailN (sumN (fAll bs plain)) := by unfold frameB; exact List.drop_left
    rw [e2, e3, if_pos rfl]
  have hE : opE T = 0 := by unfold opE; rw [h88, if_neg (by simp), s1, s2, s3, s4, b3]
  refine ⟨hE, ?_, ?_⟩
  · unfold opO; rw [hE, if_neg (by simp), s1, s2, s3, s4, b4]
  · unfold opA; rw [hE, if_neg (by simp), hl]
theorem takeE_stuck {bs : List Nat} {a n : Nat} : takeE bs a 1 n = 1 := if_pos (by simp)
theorem intE_stuck {bs : List Nat} {m a : Nat} : intE m bs a 1 = 1 := if_pos (by simp)
section
variable {T : List Nat}
theorem of_e7 (h : hE7 T = 1) : opE T = 1 := by
  have h8 : hE8 T = 1 := by unfold hE8; rw [h, if_pos (by simp)]
  unfold opE
  rw [h8, if_pos (by simp)]
theorem of_e6 (h : hE6 T = 1) : opE T = 1 := of_e7 (by unfold hE7; rw [h, takeE_stuck])
theorem of_e4 (h : hE4 T = 1) : opE T = 1 := of_e6 (by
  have h5 : hE5 T = 1 := by
    unfold hE5
    rw [h]
    split
    · rfl
    · rfl
  unfold hE6
  rw [h5, takeE_stuck])
theorem of_e3 (h : hE3 T = 1) : opE T = 1 := of_e4 (by unfold hE4; rw [h, intE_stuck])
end
theorem take_add (a b : List Nat) (i : Nat) : (a ++ b).take (a.length + i) = a ++ b.take i := by
  rw [List.take_append, List.take_of_length_le (by omega), Nat.add_sub_cancel_left]
theorem take_low {a : List Nat} (b : List Nat) {i : Nat} (h : i ≤ a.length) : (a ++ b).take i = a.take i := List.take_append_of_le_length h
theorem frame_cut {bs : List Nat} (plain : Bool) (h8 : ∀ x ∈ bs, x ≤ 255) (hN : bs.length ≤ 32768) {k : Nat} (hk : k < (frameB bs plain).length) : opE ((frameB bs plain).take k) = 1 := by
  obtain ⟨b1, b2, _, _⟩ := fbody_facts plain h8
  have hw := fway_le bs plain
  have he := frame_eq bs plain []
  rw [List.append_nil] at he
  rw [frame_len, fall_len] at hk
  rw [he]
  generalize fWay bs plain = way at *
  generalize fBody bs plain = body at *
  have ht4 := tail4 (sumN (fAll bs plain))
  generalize tailN (sumN (fAll bs plain)) = t4 at *
  generalize bs.length = n at *
  clear he
  cases k with
  | zero => exact of_e3 (by
      have h2 : hE2 ([] : List Nat) = 1 := rfl
      show hE3 ([] : List Nat) = 1
      unfold hE3
      rw [h2, intE_stuck])
  | succ k1 =>
    rw [List.take_succ_cons]
    by_cases c1 : k1 < (numB n).length
    · rw [take_low _ (by omega)]
      obtain ⟨_, s2, s3⟩ := st1 (T := way :: (numB n).take k1) rfl hw
      refine of_e3 ?_
      unfold hE3 intE
      rw [s2, s3, if_neg (by simp), List.drop_succ_cons, List.drop_zero, lim_short hN c1]
    · obtain ⟨k2, rfl⟩ : ∃ k2, k1 = (numB n).length + k2 := ⟨k1 - (numB n).length, by omega⟩
      rw [take_add]
      by_cases c2 : k2 < (numB body.length).length
      · rw [take_low _ (by omega)]
        obtain ⟨_, s2, s3⟩ := st2 (T := way :: (numB n ++ (numB body.length).take k2)) rfl hw hN
        refine of_e4 ?_
        unfold hE4 intE
        rw [s2, s3, if_neg (by simp), Nat.add_comm 1, List.drop_succ_cons, List.drop_left, lim_short (by omega) c2]
      · obtain ⟨k3, rfl⟩ : ∃ k3, k2 = (numB body.length).length + k3 := ⟨k2 - (numB body.length).length, by omega⟩
        rw [take_add]
        by_cases c3 : k3 < body.length
        · rw [take_low _ (by omega)]
          obtain ⟨s1, s2, s3⟩ := st3 (T := way :: (numB n ++ (numB body.length ++ body.take k3))) rfl hw hN (by omega) b2
          refine of_e6 ?_
          unfold hE6
          rw [s1, s2, s3, takeE0, if_pos]
          simp
          omega
        · obtain ⟨k4, rfl⟩ : ∃ k4, k3 = body.length + k4 := ⟨k3 - body.length, by omega⟩
          rw [take_add]
          obtain ⟨_, s2, s3⟩ := st4 (T := way :: (numB n ++ (numB body.length ++ (body ++ (t4 ++ []).take k4)))) rfl hw hN (by omega) b2 rfl
          refine of_e7 ?_
          unfold hE7
          rw [s2, s3, takeE0, if_pos]
          simp
          omega
end Go.Proofs.YtloakdiioaodaaaDoor.Block

namespace Go.Proofs.YtloakdiioaodaaaDoor.Block
open Go.RowKit Go.Proofs.YtloakdiioaodaaaDoor.Mem Go.Proofs.YtloakdiioaodaaaDoor.Own Go.Proofs.YtloakdiioaodaaaDoor.Canon
open Go.Proofs.YtloakdiioaodaaaDoor.Nums Go.Proofs.YtloakdiioaodaaaDoor.Crc Go.Proofs.YtloakdiioaodaaaDoor.NumPut

set_option maxRecDepth 100000 in
theorem law_cut_long (w : World) (A : Option Addr) (n c : Nat) (plain : Bool) (cut : Int) (hn : n ≤ 9223372036854775807) (h : 1000 < n) (ht : TabAt w) :
    Calls Tryd.prog 5 #[.slice A n c, .bool plain, .int .u16 cut] w fun e w' => e = .returned (.bool true) ∧ Below w.heap.size w w' := by
  have D := Lib.hid (alive12 w ht)
  have g1 : decide ((1000 : Int) < (n : Int)) = true := by simp; omega
  have g1' : decide (1000 < n) = true := by simp; omega
  clear ht
  go_enter Tryd.func5, Tryd.ntmps5
  go_wp2_with fail
  refine D.out.mono ?_
  rintro e w1 ⟨rfl, hb⟩
  go_wp2_with fail
  go_ret
  exact ⟨rfl, hb⟩
theorem frame_size {bs : List Nat} (plain : Bool) (h8 : ∀ x ∈ bs, x ≤ 255) (hN : bs.length ≤ 32768) : 4 ≤ (frameB bs plain).length ∧ (frameB bs plain).length ≤ bs.length + 11 := by
  obtain ⟨b1, _, _, _⟩ := fbody_facts plain h8
  have h1 := numB_len3 (x := bs.length) (by omega)
  have h2 := numB_len3 (x := (fBody bs plain).length) (by omega)
  rw [frame_len, fall_len]
  omega
theorem frame_u8 {bs : List Nat} (plain : Bool) (h8 : ∀ x ∈ bs, x ≤ 255) : ∀ x ∈ frameB bs plain, x ≤ 255 := by
  intro x hx
  unfold frameB fAll fHead at hx
  simp only [List.mem_append, List.mem_singleton] at hx
  rcases hx with (((rfl | hx) | hx) | hx) | hx
  · have := fway_le bs plain; omega
  · exact numB_u8 _ x hx
  · exact numB_u8 _ x hx
  · unfold fBody at hx
    split at hx
    · exact writeO_le3 _ x hx
    · exact h8 x hx
  · have := tail_bytes _ x hx; omega
set_option maxHeartbeats 1000000 in
set_option maxRecDepth 100000 in
theorem law_cut (w : World) (A : Option Addr) (n c m : Nat) (plain : Bool) (bs : List Nat) (hm : m < 65536) (hn : bs.length = n) (hle : n ≤ 1000) (hnil : A = none → n = 0 ∧ c = 0) (h8 : ∀ x ∈ bs, x ≤ 255) (ht : TabAt w) (ha : Row w w.heap.size A n 1 (numF .u8 bs)) :
    Calls Tryd.prog 5 #[.slice A n c, .bool plain, .int .u16 m] w fun e w' => e = .returned (.bool true) ∧ Below w.heap.size w w' := by
  have D := Lib.hid (alive12 w ht)
  have D1 : Hid (∀ wx, Below w.heap.size w wx → Calls Tryd.prog 8 #[.slice A n c, .bool plain] wx (WPost bs plain wx)) := fun wx hb =>
    write_any wx A n c bs plain hn (by omega) hnil h8 (ht.step hb) ((ha.below hb).mono hb.size)
  obtain ⟨k, hk⟩ : ∃ k, k = m % (frameB bs plain).length := ⟨_, rfl⟩
  obtain ⟨f4, fl⟩ := frame_size plain h8 (by omega)
  have hkl : k < (frameB bs plain).length := by rw [hk]; exact Nat.mod_lt _ (by omega)
  have hcE := frame_cut plain h8 (by omega) hkl
  have hF8 := frame_u8 plain h8
  have c1 : IntKind.i64.wrap (m : Int) = (m : Int) := IntWalk.i64_in _ (by omega)
  have c2 : (m : Int) % ((frameB bs plain).length : Int) = (k : Int) := by rw [hk]; omega
  have c3 : (m : Int).tmod ((frameB bs plain).length : Int) = (k : Int) := by rw [Int.tmod_eq_emod_of_nonneg (by omega)]; exact c2
  have hTL : ((frameB bs plain).take k).length = k := by rw [List.length_take]; omega
  have DR : Hid (∀ wx A2 c2, TabAt wx → (wx.ownsRow w.heap.size 5 1 (.slice A2 (frameB bs plain).length c2) (frameB bs plain).length (numL .u8 (frameB bs plain))) → Calls Tryd.prog 11 #[.slice A2 k c2] wx (ReadPost ((frameB bs plain).take k) wx)) := fun wx A2 c2 hT ho => by
    have hr := row_num_take (Part.Ok.row (part_own (ls := frameB bs plain) ho rfl)) (m := k) (by show k ≤ (frameB bs plain).length; omega)
    exact read_any wx _ A2 k c2 hTL (by omega) (by have := (own_wf ho).2; omega) (fun e => by have := (own_wf ho).1 e; omega) (fun h0 => row_head hr (by omega)) (fun x hx => hF8 x (List.mem_of_mem_take hx)) hT hr
  have DT : Hid (TabAt w) := ht
  have hO : opO ((frameB bs plain).take k) = [] := if_pos (by rw [hcE]; simp)
  have hA : opA ((frameB bs plain).take k) = 0 := if_pos (by rw [hcE]; simp)
  unfold ReadPost at DR
  unfold WPost at D1
  rw [hO, hA, hcE] at DR
  generalize frameB bs plain = F at *
  obtain ⟨L, hL⟩ : ∃ L, L = F.length := ⟨_, rfl⟩
  rw [← hL] at f4 fl hkl c2 c3 DR D1
  have g1 : decide ((1000 : Int) < (n : Int)) = false := by simp; omega
  have g1' : decide (1000 < n) = false := by simp; omega
  have l0 : ¬ L = 0 := by omega
  have l1 : ((L : Int) == 0) = false := by rw [beq_eq_false_iff_ne]; omega
  have ck : IntKind.i64.wrap (k : Int) = (k : Int) := IntWalk.i64_in _ (by omega)
  clear hn h8 ht ha hnil hk hcE hF8 hTL hO hA hL hle
  go_enter Tryd.func5, Tryd.ntmps5
  go_wp2_with fail
  refine D.out.mono ?_
  rintro e w1 ⟨rfl, hb⟩
  have HB1 := Lib.hid hb
  have D2 := Lib.hid (D1.out w1 hb)
  clear D D1 hb
  go_wp2_with fail
  refine D2.out.mono ?_
  rintro e w2 ⟨v, rfl, ho, hb4⟩
  obtain ⟨A2, c9, rfl⟩ := own_shape ho
  have HB : Hid (Below w.heap.size w w2) := bel_step0 hb4 HB1.out
  have hcc := (own_wf ho).2
  have ks := fun wx => run_cuth' (P := Tryd.prog) (t := 22) (s := 1) Tryd.underlying22 (fun _ => by kernel_rfl) A2 L c9 .i64 (k : Int) k rfl (by omega) (own_head ho) wx
  have D3 := Lib.hid (DR.out w2 A2 c9 (DT.out.step HB.out) (own_mono ho HB1.out.size))
  clear ho hb4 D2 DR HB1
  go_wp2_with fail
  refine D3.out.mono ?_
  rintro e w4 ⟨v4, rfl, ho4, hb5⟩
  obtain ⟨A5, c5, rfl⟩ := own_shape ho4
  have HB5 : Hid (Below w.heap.size w w4) := bel_step0 hb5 HB.out
  clear ho4 hb5 D3
  go_wp2_with fail
  go_ret
  exact ⟨rfl, HB5.out⟩
end Go.Proofs.YtloakdiioaodaaaDoor.Block

namespace Go.Proofs.YtloakdiioaodaaaDoor.Block
open Go.RowKit Go.Proofs.YtloakdiioaodaaaDoor.Mem Go.Proofs.YtloakdiioaodaaaDoor.Own Go.Proofs.YtloakdiioaodaaaDoor.Canon
open Go.Proofs.YtloakdiioaodaaaDoor.Nums Go.Proofs.YtloakdiioaodaaaDoor.Crc Go.Proofs.YtloakdiioaodaaaDoor.NumPut

set_option maxRecDepth 100000 in
theorem law_back_long (w : World) (A B : Option Addr) (n c m d : Nat) (plain : Bool) (hn : n ≤ 9223372036854775807) (hm : m ≤ 9223372036854775807) (h : ¬ (n ≤ 3000 ∧ m ≤ 3000)) (ht : TabAt w) :
    Calls Tryd.prog 4 #[.slice A n c, .bool plain, .slice B m d] w fun e w' => e = .returned (.bool true) ∧ Below w.heap.size w w' := by
  have D := Lib.hid (alive12 w ht)
  clear ht
  by_cases h1 : n ≤ 3000
  · have g1 : decide ((3000 : Int) < (n : Int)) = false := by simp; omega
    have g1' : decide (3000 < n) = false := by simp; omega
    have g2 : decide ((3000 : Int) < (m : Int)) = true := by simp; omega
    have g2' : decide (3000 < m) = true := by simp; omega
    clear h
    go_enter Tryd.func4, Tryd.ntmps4
    go_wp2_with fail
    refine D.out.mono ?_
    rintro e w1 ⟨rfl, hb⟩
    go_wp2_with fail
    go_ret
    exact ⟨rfl, hb⟩
  · have g1 : decide ((3000 : Int) < (n : Int)) = true := by simp; omega
    have g1' : decide (3000 < n) = true := by simp; omega
    clear h
    go_enter Tryd.func4, Tryd.ntmps4
    go_wp2_with fail
    refine D.out.mono ?_
    rintro e w1 ⟨rfl, hb⟩
    go_wp2_with fail
    go_ret
    exact ⟨rfl, hb⟩
theorem src_own2 {w : World} {base n c s : Nat} {e : TypeId} {A : Option Addr} {xs : List Value} (h : w.ownsRow base e s (.slice A n c) n xs) : Src w A n c s xs := by
  refine ⟨h.1, ?_⟩
  rcases h.2 with ⟨hv, h0⟩ | ⟨g, cap, cur, hv, hb, hh, hnc, hcap, hcs, htake⟩
  · injection hv with e1 e2 e3
    exact .inl ⟨e1, e2, e3⟩
  · injection hv with e1 e2 e3
    refine .inr ⟨⟨g, 0, none⟩, e1, fun j u hu => ?_⟩
    rw [add_none, Nat.zero_add, Blk.cell hh]
    rw [← htake, List.getElem?_take] at hu
    split at hu
    · simpa using hu
    · cases hu
set_option maxHeartbeats 2000000 in
set_option maxRecDepth 100000 in
theorem law_back (w : World) (A B : Option Addr) (n c m d : Nat) (plain : Bool) (bs more : List Nat) (hn : bs.length = n) (hle : n ≤ 3000) (hnil : A = none → n = 0 ∧ c = 0) (h8 : ∀ x ∈ bs, x ≤ 255) (ha : Row w w.heap.size A n 1 (numF .u8 bs))
    (hm : more.length = m) (hml : m ≤ 3000) (hmn : B = none → m = 0 ∧ d = 0) (h8m : ∀ x ∈ more, x ≤ 255) (hb : Row w w.heap.size B m 1 (numF .u8 more)) (ht : TabAt w) :
    Calls Tryd.prog 4 #[.slice A n c, .bool plain, .slice B m d] w fun e w' => e = .returned (.bool true) ∧ Below w.heap.size w w' := by
  obtain ⟨j0, hj0, hy0, hy1, hy2⟩ := info_parts info_u8
  have D := Lib.hid (alive12 w ht)
  have D1 : Hid (∀ wx, Below w.heap.size w wx → Calls Tryd.prog 8 #[.slice A n c, .bool plain] wx (WPost bs plain wx)) := fun wx hb =>
    write_any wx A n c bs plain hn (by omega) hnil h8 (ht.step hb) ((ha.below hb).mono hb.size)
  obtain ⟨f4, fl⟩ := frame_size plain h8 (by omega)
  obtain ⟨b1, b2, b3⟩ := frame_back plain more h8 (by omega)
  have hF8 := frame_u8 plain h8
  have DR : Hid (∀ wx A2 c2 L, L = (frameB bs plain ++ more).length → TabAt wx → (wx.ownsRow w.heap.size 5 1 (.slice A2 L c2) L (numL .u8 (frameB bs plain ++ more))) → Calls Tryd.prog 11 #[.slice A2 L c2] wx (ReadPost (frameB bs plain ++ more) wx)) := fun wx A2 c2 L hL hT ho => by
    subst hL
    have hr := Part.Ok.row (part_own (ls := frameB bs plain ++ more) ho rfl)
    have hl : (frameB bs plain ++ more).length ≤ 100000 := by rw [List.length_append]; omega
    exact read_any wx _ A2 _ c2 rfl hl (own_wf ho).2 (own_wf ho).1 (fun h0 => row_head hr h0) (fun x hx => by rcases List.mem_append.1 hx with h | h; exact hF8 x h; exact h8m x h) hT hr
  have DT : Hid (TabAt w) := ht
  have DSB : Hid (∀ wx, Below w.heap.size w wx → Src wx B m d 1 (numL .u8 more)) := fun wx h => src_num ((hb.below h).mono h.size) hm hmn
  have DS : Hid (∀ wx A2 c2, Below w.heap.size w wx → wx.ownsRow w.heap.size 5 1 (.slice A2 n c2) n (numL .u8 bs) → Calls Tryd.prog 10 #[.slice A2 n c2, .slice A n c] wx fun e w' => e = .returned (.bool true) ∧ wx = w') := fun wx A2 c2 h ho => by
    have P := part_own ho hn
    have hr : Row wx wx.heap.size A2 n 1 (numF .u8 bs) := by have := P.row; simp only [hn] at this; exact this
    refine (Huff.same_any wx A2 A n n c2 c bs bs hn hn (fun e => by have := (own_wf ho).1 e; omega) (fun e => (hnil e).1) h8 h8 hr ((ha.below h).mono h.size)).mono ?_
    rintro e w' ⟨rfl, rfl⟩
    exact ⟨by simp, rfl⟩
  unfold WPost at D1
  unfold ReadPost at DR
  rw [b1, b2, b3, hn] at DR
  have hFm : Hid (numL .u8 (frameB bs plain ++ more) = numL .u8 (frameB bs plain) ++ numL .u8 more ∧ (frameB bs plain ++ more).length = (frameB bs plain).length + m) := ⟨by simp [numL], by rw [List.length_append, hm]⟩
  generalize frameB bs plain ++ more = G at *
  generalize frameB bs plain = F at *
  obtain ⟨L, hL⟩ : ∃ L, L = F.length := ⟨_, rfl⟩
  rw [← hL] at f4 fl DR D1 hFm
  have HS : Hid (Src w none 0 0 1 []) := Src.nil _ _
  have g1 : decide ((3000 : Int) < (n : Int)) = false := by simp; omega
  have g1' : decide (3000 < n) = false := by simp; omega
  have g2 : decide ((3000 : Int) < (m : Int)) = false := by simp; omega
  have g2' : decide (3000 < m) = false := by simp; omega
  have s1 : IntKind.i64.wrap ((n : Int) + 11) = ((n + 11 : Nat) : Int) := by rw [IntWalk.i64_in _ (by omega)]; omega
  have g3 : decide (((n + 11 : Nat) : Int) < (L : Int)) = false := by simp; omega
  obtain ⟨q, hq⟩ : ∃ q, q = n + 11 := ⟨_, rfl⟩
  rw [← hq] at s1 g3
  have g3' : decide (q < L) = false := by simp; omega
  have g4 : ((L : Int) == (L : Int)) = true := by simp
  have hlt : L + m ≤ 10000 := by omega
  have h1F : Hid (∀ u ∈ numL .u8 F, u.oneCell' = true) := numL_one _ _
  have h1M : Hid (∀ u ∈ numL .u8 more, u.oneCell' = true) := numL_one _ _
  clear hn h8 ht ha hnil hF8 hL hle hm hml hmn h8m hb b1 b2 b3 HS hq
  go_enter Tryd.func4, Tryd.ntmps4
  go_wp2_with fail
  refine D.out.mono ?_
  rintro e w1 ⟨rfl, hb1⟩
  have HB1 := Lib.hid hb1
  have D2 := Lib.hid (D1.out w1 hb1)
  clear D D1 hb1
  go_wp2_with fail
  refine D2.out.mono ?_
  rintro e w2 ⟨v, rfl, ho, hb4⟩
  obtain ⟨A2, c9, rfl⟩ := own_shape ho
  have HB : Hid (Below w.heap.size w w2) := bel_step0 hb4 HB1.out
  have hz := HB.out.size
  have HO0 : Hid (w2.ownsRow w.heap.size 5 1 (.slice none 0 0) 0 []) := World.ownsRow_nil _ _ _ _
  have HSF : Hid (Src w2 A2 L c9 1 (numL .u8 F)) := src_own2 ho
  clear ho hb4 D2 HB1
  go_wp2_with (first | (at_builtin; refine wpList_app rfl (.tmp 39) (.tmp 40) 22 rfl w.heap.size 5 j0 _ 1 1 Tryd.underlying22 hj0 hy0 hy1 hy2 rfl (by decide) _ _ _ (by rfl) HO0.out _ _ _ _ (by rfl) HSF.out h1F.out (by unfold maxLen; omega) (by omega) hz ?_; intro v4 w4 hown4 hg4 hat4; have HB4 : Hid (Below w.heap.size w w4) := HB.out.grown hg4 hz (fun y hy => (World.ownsRow.lt HO0.out y hy).1); have hz4 := HB4.out.size; have HSM := Lib.hid (DSB.out w4 HB4.out)) | (at_builtin; refine wpList_app rfl (.tmp 41) (.tmp 42) 22 rfl w.heap.size 5 j0 _ 1 1 Tryd.underlying22 hj0 hy0 hy1 hy2 rfl (by decide) _ _ _ (by rfl) hown4 _ _ _ _ (by rfl) HSM.out h1M.out (by unfold maxLen; omega) (by omega) hz4 ?_; intro v5 w5 hown5 hg5 hat5; have HO5 : Hid (w5.ownsRow w.heap.size 5 1 v5 (L + m) (numL .u8 G)) := by { have h := hown5; rw [List.nil_append, Nat.zero_add, ← hFm.out.1] at h; exact h }; have HB5 : Hid (Below w.heap.size w w5) := HB4.out.grown hg5 hz4 (fun y hy => (World.ownsRow.lt hown4 y hy).1); obtain ⟨A5, c5, rfl⟩ := own_shape HO5.out))
  have D3 := Lib.hid (DR.out w5 A5 c5 (L + m) hFm.out.2.symm (DT.out.step HB5.out) HO5.out)
  clear DR hown5 hg5 hat5 hown4 hg4 hat4 HSM HB4 HSF HO0 HB DSB HO5
  refine D3.out.mono ?_
  rintro e w6 ⟨v6, rfl, ho6, hb6⟩
  obtain ⟨A6, c6, rfl⟩ := own_shape ho6
  have HB6 : Hid (Below w.heap.size w w6) := bel_step0 hb6 HB5.out
  have D4 := Lib.hid (DS.out w6 A6 c6 HB6.out (own_mono ho6 HB5.out.size))
  clear DS D3 ho6 hb6
  go_wp2_with fail
  refine D4.out.mono ?_
  rintro e w7 ⟨rfl, rfl⟩
  go_wp2_with fail
  go_ret
  exact ⟨rfl, HB6.out⟩
end Go.Proofs.YtloakdiioaodaaaDoor.Block
