/-
  The walks of the laws SiftMay and SiftSound.
-/
import Derived.Test.YtloakdiioaodaaaSiftRefMay
namespace Go.Proofs.Ytloakdiioaodaaa.Sift
open Go.RowKit Go.Proofs.Ytloakdiioaodaaa.Mem Go.Proofs.Ytloakdiioaodaaa.Own

theorem al_has1 : Lib.contains [68, 105, 115, 107, 32, 102, 117, 108, 108] [115, 107, 32, 102, 117] = true := by decide +kernel
theorem al_has2 : Lib.contains [102, 117, 108, 108, 32, 114, 105, 115, 107] [115, 107, 32, 102, 117] = false := by decide +kernel
theorem al_may1 : mayB [68, 105, 115, 107, 32, 102, 117, 108, 108] [115, 107, 32, 102, 117] = true := by decide +kernel
theorem al_may2 : mayB [102, 117, 108, 108, 32, 114, 105, 115, 107] [115, 107, 32, 102, 117] = true := by decide +kernel

set_option maxRecDepth 100000 in
theorem salive_any (w : World) (hm : MLen w) : Calls Try.prog 7 #[] w fun e w' => e = .returned (.bool true) ∧ Below w.heap.size w w' := by
  have C1 := fun (wx : World) (h : MLen wx) tm lv src => shas_any wx tm lv src ⟨#[68, 105, 115, 107, 32, 102, 117, 108, 108]⟩ ⟨#[115, 107, 32, 102, 117]⟩ (by decide) h
  have C2 := fun (wx : World) (h : MLen wx) tm lv src => smay_any wx tm lv src ⟨#[68, 105, 115, 107, 32, 102, 117, 108, 108]⟩ ⟨#[115, 107, 32, 102, 117]⟩ (by decide) (by decide) h
  have C3 := fun (wx : World) (h : MLen wx) tm lv src => shas_any wx tm lv src ⟨#[102, 117, 108, 108, 32, 114, 105, 115, 107]⟩ ⟨#[115, 107, 32, 102, 117]⟩ (by decide) h
  have C4 := fun (wx : World) (h : MLen wx) tm lv src => smay_any wx tm lv src ⟨#[102, 117, 108, 108, 32, 114, 105, 115, 107]⟩ ⟨#[115, 107, 32, 102, 117]⟩ (by decide) (by decide) h
  simp only [al_has1] at C1
  simp only [al_may1] at C2
  simp only [al_has2] at C3
  simp only [al_may2] at C4
  have C1 := Lib.hid C1
  have C2 := Lib.hid C2
  have C3 := Lib.hid C3
  have C4 := Lib.hid C4
  have HM := Lib.hid hm
  clear hm
  go_enter Try.func7, Try.ntmps7
  go_wp2_with fail
  have hb2 : Below w.heap.size w ((w.alloc (.cells #[.int .u64 0, .int .u8 0, .string ⟨#[]⟩, .string ⟨#[68, 105, 115, 107, 32, 102, 117, 108, 108]⟩] 24)).alloc (.cells #[.int .u64 0, .int .u8 0, .string ⟨#[]⟩, .string ⟨#[102, 117, 108, 108, 32, 114, 105, 115, 107]⟩] 24)) := by (repeat (first | (with_reducible exact Below.refl _ _) | (with_reducible assumption) | (with_reducible refine Below.drew ?_) | (with_reducible refine below_drewN ?_ _) | ((with_reducible refine bel_set ?_ ?_); (focus (first | (simp; done) | (simp; omega) | omega | (simp at *; omega)))) | (with_reducible refine bel_alloc0 ?_) | (with_reducible refine bel_step0 (by assumption) ?_) | ((with_reducible refine bel_alloc ?_ ?_); (focus (first | (simp; done) | (simp; omega) | omega | (simp at *; omega)))) | ((with_reducible refine bel_step (by assumption) ?_ ?_); (focus (first | (simp; done) | (simp; omega) | omega | (simp at *; omega))))))
  have b1 : Blk ((w.alloc (.cells #[.int .u64 0, .int .u8 0, .string ⟨#[]⟩, .string ⟨#[68, 105, 115, 107, 32, 102, 117, 108, 108]⟩] 24)).alloc (.cells #[.int .u64 0, .int .u8 0, .string ⟨#[]⟩, .string ⟨#[102, 117, 108, 108, 32, 114, 105, 115, 107]⟩] 24)) _ _ _ := (Blk.made w _ _).alloc _
  have b2 : Blk ((w.alloc (.cells #[.int .u64 0, .int .u8 0, .string ⟨#[]⟩, .string ⟨#[68, 105, 115, 107, 32, 102, 117, 108, 108]⟩] 24)).alloc (.cells #[.int .u64 0, .int .u8 0, .string ⟨#[]⟩, .string ⟨#[102, 117, 108, 108, 32, 114, 105, 115, 107]⟩] 24)) (w.heap.size + 1) _ _ := Blk.made_at _ _ _ (by simp)
  generalize ((w.alloc (.cells #[.int .u64 0, .int .u8 0, .string ⟨#[]⟩, .string ⟨#[68, 105, 115, 107, 32, 102, 117, 108, 108]⟩] 24)).alloc (.cells #[.int .u64 0, .int .u8 0, .string ⟨#[]⟩, .string ⟨#[102, 117, 108, 108, 32, 114, 105, 115, 107]⟩] 24)) = w2 at *
  refine (C1.out _ (HM.out.below hb2) _ _ _).mono ?_
  rintro e w3 ⟨rfl, hb⟩
  have b1 := b1.step hb
  have b2 := b2.step hb
  have HB3 : Hid (Below w.heap.size w w3) := hb2.trans (hb.mono hb2.size)
  have d0 := b1.cell 0; have d1 := b1.cell 1; have d2 := b1.cell 2; have d3 := b1.cell 3
  simp only [List.getElem?_toArray, List.getElem?_cons_zero, List.getElem?_cons_succ] at d0 d1 d2 d3
  have B2 := Lib.hid b2
  clear hb hb2 b1 b2
  go_wp2_with fail
  refine (C2.out _ (HM.out.below HB3.out) _ _ _).mono ?_
  rintro e w4 ⟨rfl, hb⟩
  have b2 := B2.out.step hb
  have HB4 : Hid (Below w.heap.size w w4) := HB3.out.trans (hb.mono HB3.out.size)
  clear hb HB3 d0 d1 d2 d3 B2
  have d0 := b2.cell 0; have d1 := b2.cell 1; have d2 := b2.cell 2; have d3 := b2.cell 3
  simp only [List.getElem?_toArray, List.getElem?_cons_zero, List.getElem?_cons_succ] at d0 d1 d2 d3
  have B2 := Lib.hid b2
  clear b2
  go_wp2_with fail
  refine (C3.out _ (HM.out.below HB4.out) _ _ _).mono ?_
  rintro e w5 ⟨rfl, hb⟩
  have b2 := B2.out.step hb
  have HB5 : Hid (Below w.heap.size w w5) := HB4.out.trans (hb.mono HB4.out.size)
  clear hb HB4 d0 d1 d2 d3 B2
  have d0 := b2.cell 0; have d1 := b2.cell 1; have d2 := b2.cell 2; have d3 := b2.cell 3
  simp only [List.getElem?_toArray, List.getElem?_cons_zero, List.getElem?_cons_succ] at d0 d1 d2 d3
  clear b2
  go_wp2_with fail
  refine (C4.out _ (HM.out.below HB5.out) _ _ _).mono ?_
  rintro e w6 ⟨rfl, hb⟩
  have HB6 : Hid (Below w.heap.size w w6) := HB5.out.trans (hb.mono HB5.out.size)
  clear hb HB5 d0 d1 d2 d3
  go_wp2_with fail
  go_ret
  exact ⟨rfl, HB6.out⟩

/-- The law's own record lies in block rb. -/
structure LawS (w : World) (rb : Nat) (tm lv : Int) (src text : ByteArray) (wx : World) : Prop where
  below : Below w.heap.size w wx
  ml : MLen wx
  r : Blk wx rb 24 #[.int .u64 tm, .int .u8 lv, .string src, .string text]
theorem LawS.step {w wx wy : World} {rb : Nat} {tm lv : Int} {src text : ByteArray} (h : LawS w rb tm lv src text wx) (hb : Below wx.heap.size wx wy) : LawS w rb tm lv src text wy :=
  ⟨h.below.trans (hb.mono h.below.size), h.ml.below hb, h.r.step hb⟩
theorem LawS.drew {w wx : World} {rb : Nat} {tm lv : Int} {src text : ByteArray} (h : LawS w rb tm lv src text wx) : LawS w rb tm lv src text wx.drew := ⟨h.below.drew, h.ml, h.r⟩
def RecAt (wx : World) (rb : Nat) (tm lv : Int) (src text : ByteArray) : Prop :=
  wx.cell? ⟨rb, 0, none⟩ = some (.int .u64 tm) ∧ wx.cell? ⟨rb, 1, none⟩ = some (.int .u8 lv) ∧ wx.cell? ⟨rb, 2, none⟩ = some (.string src) ∧ wx.cell? ⟨rb, 3, none⟩ = some (.string text)
theorem LawS.cells {w wx : World} {rb : Nat} {tm lv : Int} {src text : ByteArray} (h : LawS w rb tm lv src text wx) : RecAt wx rb tm lv src text := ⟨h.r.cell 0, h.r.cell 1, h.r.cell 2, h.r.cell 3⟩

set_option maxRecDepth 100000 in
theorem law_may (w : World) (tm lv : Int) (src text needle : ByteArray) (hm : MLen w) (hs : text.size ≤ 500) (hs2 : needle.size ≤ 100) :
    Calls Try.prog 3 #[.agg #[.int .u64 tm, .int .u8 lv, .string src, .string text], .string needle] w fun e w' => e = .returned (.bool true) ∧ Below w.heap.size w w' := by
  have A0 := salive_any (w.alloc (.cells #[.int .u64 tm, .int .u8 lv, .string src, .string text] 24)) (hm.below (bel_alloc0 (Below.refl _ _)))
  have L0 : LawS w w.heap.size tm lv src text (w.alloc (.cells #[.int .u64 tm, .int .u8 lv, .string src, .string text] 24)) := ⟨bel_alloc0 (Below.refl _ _), hm.below (bel_alloc0 (Below.refl _ _)), Blk.made _ _ _⟩
  have C1 : Hid (∀ wx, LawS w w.heap.size tm lv src text wx → Calls Try.prog 8 #[.agg #[.int .u64 tm, .int .u8 lv, .string src, .string text], .string needle] wx fun e w' => e = .returned (.bool (Lib.contains text.data.toList needle.data.toList)) ∧ LawS w w.heap.size tm lv src text w') :=
    fun wx h => (shas_any wx tm lv src text needle (by omega) h.ml).mono fun e w' h' => ⟨h'.1, h.step h'.2⟩
  have C2 : Hid (∀ wx, LawS w w.heap.size tm lv src text wx → Calls Try.prog 9 #[.string text, .string needle] wx fun e w' => e = .returned (.bool (Lib.contains text.data.toList needle.data.toList)) ∧ LawS w w.heap.size tm lv src text w') :=
    fun wx h => (rin_any wx text needle (by omega) (by omega)).mono fun e w' h' => ⟨h'.1, by rw [h'.2]; exact h⟩
  have C3 : Hid (∀ wx, LawS w w.heap.size tm lv src text wx → Calls Try.prog 10 #[.agg #[.int .u64 tm, .int .u8 lv, .string src, .string text], .string needle] wx fun e w' => e = .returned (.bool (mayB text.data.toList needle.data.toList)) ∧ LawS w w.heap.size tm lv src text w') :=
    fun wx h => (smay_any wx tm lv src text needle (by omega) (by omega) h.ml).mono fun e w' h' => ⟨h'.1, h.step h'.2⟩
  have C4 : Hid (∀ wx, LawS w w.heap.size tm lv src text wx → Calls Try.prog 11 #[.agg #[.int .u64 tm, .int .u8 lv, .string src, .string text], .string needle] wx fun e w' => e = .returned (.bool (mayB text.data.toList needle.data.toList)) ∧ LawS w w.heap.size tm lv src text w') :=
    fun wx h => (rmay_any wx tm lv src text needle (by omega) (by omega)).mono fun e w' h' => ⟨h'.1, h.step h'.2⟩
  generalize Lib.contains text.data.toList needle.data.toList = p at *
  generalize mayB text.data.toList needle.data.toList = q at *
  have g1 : decide ((500 : Int) < (text.size : Int)) = false := by simp; omega
  have g2 : decide (500 < text.size) = false := by simp; omega
  have g3 : decide ((100 : Int) < (needle.size : Int)) = false := by simp; omega
  have g4 : decide (100 < needle.size) = false := by simp; omega
  have A0 := Lib.hid A0
  have L0 := Lib.hid L0
  clear hm
  go_enter Try.func3, Try.ntmps3
  go_wp2_with fail
  refine A0.out.mono ?_
  rintro e w1 ⟨rfl, hb⟩
  have l1 := L0.out.step hb
  have k1 := l1.cells
  unfold RecAt at k1
  obtain ⟨d0, d1, d2, d3⟩ := k1
  clear hb A0 L0
  go_upto_region 5 with fail
  go_region_held3 (fun wx => wx.cell? ⟨w.heap.size, 0, none⟩ = some (.int .u64 tm) ∧ wx.cell? ⟨w.heap.size, 1, none⟩ = some (.int .u8 lv) ∧ wx.cell? ⟨w.heap.size, 2, none⟩ = some (.string src) ∧ wx.cell? ⟨w.heap.size, 3, none⟩ = some (.string text)) (first | exact ⟨d0, d1, d2, d3⟩ | exact LawS.cells (by assumption)) (first | (go_at_call 8; (with_reducible refine (C1.out _ (by first | assumption | exact LawS.drew (by assumption))).mono ?_); rintro e w' ⟨rfl, lA⟩) | (go_at_call 9; (with_reducible refine (C2.out _ (by first | assumption | exact LawS.drew (by assumption))).mono ?_); rintro e w' ⟨rfl, lB⟩) | (go_at_call 10; (with_reducible refine (C3.out _ (by first | assumption | exact LawS.drew (by assumption))).mono ?_); rintro e w' ⟨rfl, lC⟩) | (go_at_call 11; (with_reducible refine (C4.out _ (by first | assumption | exact LawS.drew (by assumption))).mono ?_); rintro e w' ⟨rfl, lD⟩))
  go_wp2_with fail
  go_ret
  exact ⟨rfl, LawS.below (by assumption)⟩
set_option maxRecDepth 100000 in
theorem law_may_long (w : World) (tm lv : Int) (src text needle : ByteArray) (hm : MLen w) (h : ¬ (text.size ≤ 500 ∧ needle.size ≤ 100)) :
    Calls Try.prog 3 #[.agg #[.int .u64 tm, .int .u8 lv, .string src, .string text], .string needle] w fun e w' => e = .returned (.bool true) ∧ Below w.heap.size w w' := by
  have A0 := salive_any (w.alloc (.cells #[.int .u64 tm, .int .u8 lv, .string src, .string text] 24)) (hm.below (bel_alloc0 (Below.refl _ _)))
  have L0 : LawS w w.heap.size tm lv src text (w.alloc (.cells #[.int .u64 tm, .int .u8 lv, .string src, .string text] 24)) := ⟨bel_alloc0 (Below.refl _ _), hm.below (bel_alloc0 (Below.refl _ _)), Blk.made _ _ _⟩
  have A0 := Lib.hid A0
  have L0 := Lib.hid L0
  clear hm
  by_cases h1 : text.size ≤ 500
  · have g1 : decide ((500 : Int) < (text.size : Int)) = false := by simp; omega
    have g2 : decide (500 < text.size) = false := by simp; omega
    have g3 : decide ((100 : Int) < (needle.size : Int)) = true := by simp; omega
    have g4 : decide (100 < needle.size) = true := by simp; omega
    clear h h1
    go_enter Try.func3, Try.ntmps3
    go_wp2_with fail
    refine A0.out.mono ?_
    rintro e w1 ⟨rfl, hb⟩
    have l1 := L0.out.step hb
    have k1 := l1.cells
    unfold RecAt at k1
    obtain ⟨d0, d1, d2, d3⟩ := k1
    have L1 := Lib.hid l1
    clear hb A0 L0 l1
    go_wp2_with fail
    go_ret
    exact ⟨rfl, L1.out.below⟩
  · have g1 : decide ((500 : Int) < (text.size : Int)) = true := by simp; omega
    have g2 : decide (500 < text.size) = true := by simp; omega
    clear h h1
    go_enter Try.func3, Try.ntmps3
    go_wp2_with fail
    refine A0.out.mono ?_
    rintro e w1 ⟨rfl, hb⟩
    have l1 := L0.out.step hb
    have k1 := l1.cells
    unfold RecAt at k1
    obtain ⟨d0, d1, d2, d3⟩ := k1
    have L1 := Lib.hid l1
    clear hb A0 L0 l1
    go_wp2_with fail
    go_ret
    exact ⟨rfl, L1.out.below⟩

set_option maxRecDepth 100000 in
theorem law_sound (w : World) (a n b : ByteArray) (c : Nat) (hm : MLen w) (hc : c < 256) (ha : a.size ≤ 200) (hn : n.size ≤ 100) (hb : b.size ≤ 200) :
    Calls Try.prog 4 #[.string a, .string n, .string b, .int .u8 c] w fun e w' => e = .returned (.bool true) ∧ Below w.heap.size w w' := by
  have A0 := salive_any w hm
  obtain ⟨T, hT⟩ : ∃ T, T = a ++ n ++ b := ⟨_, rfl⟩
  have hTl : T.data.toList = a.data.toList ++ n.data.toList ++ b.data.toList := by rw [hT]; simp
  have hTs : T.size ≤ 500 := by rw [Lib.size_eq, hTl, List.length_append, List.length_append, ← Lib.size_eq, ← Lib.size_eq, ← Lib.size_eq]; omega
  obtain ⟨k, hk⟩ : ∃ k, k = c % (n.size + 1) := ⟨_, rfl⟩
  have hkn : k ≤ n.size := by have := Nat.mod_lt c (y := n.size + 1) (by omega); omega
  have kh : ∀ wx, (Instr.slice 9 (.string n) none (some (.int .i64 (k : Int))) none).run Try.prog wx = .ok (.string (bs (n.data.toList.take k))) wx := by
    intro wx
    rw [run_slice_string_h wx (t := 9) (s := n) (ht := Try.underlying9) .i64 (k : Int) (by omega) (by omega)]
    congr 2
    refine bs_ext ?_
    rw [Int.toNat_natCast, extract_list]
    simp
  have kl : ∀ wx, (Instr.slice 9 (.string n) (some (.int .i64 (k : Int))) none none).run Try.prog wx = .ok (.string (bs (n.data.toList.drop k))) wx := by
    intro wx
    rw [run_slice_string_l wx (t := 9) (s := n) (ht := Try.underlying9) .i64 (k : Int) (by omega) (by omega)]
    congr 2
    refine bs_ext ?_
    rw [Int.toNat_natCast, extract_list, List.take_of_length_le (by rw [List.length_drop, ← Lib.size_eq]; exact Nat.le_refl _)]
  have r1 : Lib.contains T.data.toList n.data.toList = true := by rw [hTl]; exact contains_mid _ _ _
  have r2 : mayB T.data.toList n.data.toList = true := by rw [hTl]; exact may_sound _ _ _
  have r3 : Lib.contains T.data.toList (n.data.toList.take k) = true := by
    rw [hTl, contains_iff]
    exact ⟨a.data.toList, n.data.toList.drop k ++ b.data.toList, by rw [← List.append_assoc, List.append_assoc a.data.toList, List.take_append_drop]⟩
  have r4 : mayB T.data.toList (n.data.toList.drop k) = true := by
    have h := may_sound (a.data.toList ++ n.data.toList.take k) (n.data.toList.drop k) b.data.toList
    rw [List.append_assoc a.data.toList, List.take_append_drop] at h
    rw [hTl]
    exact h
  have hnl : n.data.toList.length = n.size := (Lib.size_eq n).symm
  have C1 : Hid (∀ gb src wx, LawS w gb 0 0 src T wx → Calls Try.prog 8 #[.agg #[.int .u64 0, .int .u8 0, .string src, .string T], .string n] wx fun e w' => e = .returned (.bool true) ∧ LawS w gb 0 0 src T w') :=
    fun gb src wx h => (shas_any wx 0 0 src T n (by omega) h.ml).mono fun e w' h' => ⟨by rw [h'.1, r1], h.step h'.2⟩
  have C2 : Hid (∀ gb src wx, LawS w gb 0 0 src T wx → Calls Try.prog 10 #[.agg #[.int .u64 0, .int .u8 0, .string src, .string T], .string n] wx fun e w' => e = .returned (.bool true) ∧ LawS w gb 0 0 src T w') :=
    fun gb src wx h => (smay_any wx 0 0 src T n (by omega) (by omega) h.ml).mono fun e w' h' => ⟨by rw [h'.1, r2], h.step h'.2⟩
  have C3 : Hid (∀ gb src wx, LawS w gb 0 0 src T wx → Calls Try.prog 8 #[.agg #[.int .u64 0, .int .u8 0, .string src, .string T], .string (bs (n.data.toList.take k))] wx fun e w' => e = .returned (.bool true) ∧ LawS w gb 0 0 src T w') :=
    fun gb src wx h => (shas_any wx 0 0 src T (bs (n.data.toList.take k)) (by omega) h.ml).mono fun e w' h' => ⟨by rw [h'.1, bs_list, r3], h.step h'.2⟩
  have C4 : Hid (∀ gb src wx, LawS w gb 0 0 src T wx → Calls Try.prog 10 #[.agg #[.int .u64 0, .int .u8 0, .string src, .string T], .string (bs (n.data.toList.drop k))] wx fun e w' => e = .returned (.bool true) ∧ LawS w gb 0 0 src T w') :=
    fun gb src wx h => (smay_any wx 0 0 src T (bs (n.data.toList.drop k)) (by omega) (by rw [bs_size, List.length_drop]; omega) h.ml).mono fun e w' h' => ⟨by rw [h'.1, bs_list, r4], h.step h'.2⟩
  generalize bs (n.data.toList.take k) = n1 at *
  generalize bs (n.data.toList.drop k) = n2 at *
  have g1 : decide ((200 : Int) < (a.size : Int)) = false := by simp; omega
  have g2 : decide (200 < a.size) = false := by simp; omega
  have g3 : decide ((100 : Int) < (n.size : Int)) = false := by simp; omega
  have g4 : decide (100 < n.size) = false := by simp; omega
  have g5 : decide ((200 : Int) < (b.size : Int)) = false := by simp; omega
  have g6 : decide (200 < b.size) = false := by simp; omega
  have s1 : IntKind.i64.wrap ((n.size : Int) + 1) = ((n.size : Int) + 1) := by rw [IntWalk.i64_in _ (by omega)]
  have s2 : IntKind.i64.wrap (c : Int) = (c : Int) := by rw [IntWalk.i64_in _ (by omega)]
  have s3 : Int.tmod (c : Int) ((n.size : Int) + 1) = (k : Int) := by rw [hk]; exact (Int.ofNat_tmod c (n.size + 1)).symm
  have s4 : ((n.size : Int) + 1 == 0) = false := by rw [Bool.eq_false_iff]; intro h; simp at h; omega
  have s5 : IntKind.i64.wrap (k : Int) = (k : Int) := by rw [IntWalk.i64_in _ (by omega)]
  have x0 : (0 : Int) ≤ (k : Int) := by omega
  have x1 : (k : Int) ≤ (n.size : Int) := by omega
  have A0 := Lib.hid A0
  have HM := Lib.hid hm
  have HT := Lib.hid hT
  clear hm hTl hTs hk r1 r2 r3 r4 hnl hT
  go_enter Try.func4, Try.ntmps4
  go_wp2_with fail
  refine A0.out.mono ?_
  rintro e w1 ⟨rfl, hb1⟩
  go_upto_region 7 with fail
  rw [← HT.out]
  have l1 : LawS w w1.heap.size 0 0 ⟨#[]⟩ T (w1.alloc (.cells #[.int .u64 0, .int .u8 0, .string ⟨#[]⟩, .string T] 24)) := ⟨bel_alloc hb1.size hb1, (HM.out.below hb1).below (bel_alloc0 (Below.refl _ _)), Blk.made _ _ _⟩
  generalize w1.alloc (.cells #[.int .u64 0, .int .u8 0, .string ⟨#[]⟩, .string T] 24) = w2 at *
  generalize w1.heap.size = rb at *
  have k1 := l1.cells
  unfold RecAt at k1
  obtain ⟨d0, d1, d2, d3⟩ := k1
  clear A0 HT hb1
  go_region_held3 (fun wx => wx.cell? ⟨rb, 0, none⟩ = some (.int .u64 0) ∧ wx.cell? ⟨rb, 1, none⟩ = some (.int .u8 0) ∧ wx.cell? ⟨rb, 2, none⟩ = some (.string ⟨#[]⟩) ∧ wx.cell? ⟨rb, 3, none⟩ = some (.string T)) (first | exact ⟨d0, d1, d2, d3⟩ | exact LawS.cells (by assumption)) (first | (go_at_call 8; (with_reducible refine (C1.out _ _ _ (by first | assumption | exact LawS.drew (by assumption))).mono ?_); rintro e w' ⟨rfl, lA⟩) | (go_at_call 10; (with_reducible refine (C2.out _ _ _ (by first | assumption | exact LawS.drew (by assumption))).mono ?_); rintro e w' ⟨rfl, lB⟩) | (go_at_call 8; (with_reducible refine (C3.out _ _ _ (by first | assumption | exact LawS.drew (by assumption))).mono ?_); rintro e w' ⟨rfl, lC⟩) | (go_at_call 10; (with_reducible refine (C4.out _ _ _ (by first | assumption | exact LawS.drew (by assumption))).mono ?_); rintro e w' ⟨rfl, lD⟩))
  go_wp2_with fail
  go_ret
  exact ⟨rfl, LawS.below (by assumption)⟩
set_option maxRecDepth 100000 in
theorem law_sound_long (w : World) (a n b : ByteArray) (c : Nat) (hm : MLen w) (h : ¬ (a.size ≤ 200 ∧ n.size ≤ 100 ∧ b.size ≤ 200)) :
    Calls Try.prog 4 #[.string a, .string n, .string b, .int .u8 c] w fun e w' => e = .returned (.bool true) ∧ Below w.heap.size w w' := by
  have A0 := Lib.hid (salive_any w hm)
  by_cases h1 : a.size ≤ 200
  · have g1 : decide ((200 : Int) < (a.size : Int)) = false := by simp; omega
    have g2 : decide (200 < a.size) = false := by simp; omega
    by_cases h2 : n.size ≤ 100
    · have g3 : decide ((100 : Int) < (n.size : Int)) = false := by simp; omega
      have g4 : decide (100 < n.size) = false := by simp; omega
      have g5 : decide ((200 : Int) < (b.size : Int)) = true := by simp; omega
      have g6 : decide (200 < b.size) = true := by simp; omega
      clear h h1 h2 hm
      go_enter Try.func4, Try.ntmps4
      go_wp2_with fail
      refine A0.out.mono ?_
      rintro e w1 ⟨rfl, hb1⟩
      go_wp2_with fail
      go_ret
      exact ⟨rfl, hb1⟩
    · have g3 : decide ((100 : Int) < (n.size : Int)) = true := by simp; omega
      have g4 : decide (100 < n.size) = true := by simp; omega
      clear h h1 h2 hm
      go_enter Try.func4, Try.ntmps4
      go_wp2_with fail
      refine A0.out.mono ?_
      rintro e w1 ⟨rfl, hb1⟩
      go_wp2_with fail
      go_ret
      exact ⟨rfl, hb1⟩
  · have g1 : decide ((200 : Int) < (a.size : Int)) = true := by simp; omega
    have g2 : decide (200 < a.size) = true := by simp; omega
    clear h h1 hm
    go_enter Try.func4, Try.ntmps4
    go_wp2_with fail
    refine A0.out.mono ?_
    rintro e w1 ⟨rfl, hb1⟩
    go_wp2_with fail
    go_ret
    exact ⟨rfl, hb1⟩
end Go.Proofs.Ytloakdiioaodaaa.Sift
