/-
  The walk of firkinref11.Read: tokens that are read by the reference.
-/
import Derived.Test.YtdfpcnldfibceaaToksRef1
import Derived.Test.YtdfpcnldfibceaaToksRead3
import Derived.Test.YtdfpcnldfibceaaRefReader
import Derived.Test.YtdfpcnldfibceaaRefNew
import Derived.Test.YtdfpcnldfibceaaRefGet
import Derived.Test.YtdfpcnldfibceaaRefPad
namespace Go.Proofs.Ytdfpcnldfibceaa.Huff
open Go.RowKit Go.Proofs.Ytdfpcnldfibceaa.Mem Go.Proofs.Ytdfpcnldfibceaa.Canon Go.Proofs.Ytdfpcnldfibceaa.Own
open Go.Proofs.Ytdfpcnldfibceaa.Toks (Tk Pc joinT joinE pw mayB)

theorem join_ok {s x r y : Nat} (h1 : 257 ≤ s) (h2 : s ≤ 264) (h3 : r ≤ 11) (hx : x < 2 ^ (s - 257)) (hy : y < 2 ^ r) : joinE ⟨(s : Int), (x : Int), (r : Int), (y : Int)⟩ = 0 := by
  have p1 : pw ((s : Int) - 257) = ((2 ^ (s - 257) : Nat) : Int) := by unfold pw; rw [show ((s : Int) - 257).toNat = s - 257 by omega]
  have p2 : pw (r : Int) = ((2 ^ r : Nat) : Int) := by unfold pw; rw [Int.toNat_natCast]
  exact (Toks.join_match ⟨(s : Int), (x : Int), (r : Int), (y : Int)⟩ (by simp only; omega) (by simp only; omega) (by simp only; omega) (by simp only; omega) (by simp only; rw [p1]; omega) (by simp only; rw [p2]; omega)).2
set_option maxRecDepth 100000 in
theorem rtread_neg (w : World) (u : Value) (lb : List Nat) (most : Int) (_h1 : -9223372036854775808 ≤ most) (hm : most < 0) :
    Calls Try.prog 79 #[u, .int .i64 most] w (TRPost (readToks lb most) w) := by
  have hR : readToks lb most = ([], 13) := by unfold readToks; rw [if_pos hm]
  rw [hR]
  go_enter Try.func79, Try.ntmps79
  go_wp2_with fail
  go_ret2
  exact ⟨_, rfl, World.ownsRow_nil _ _ _ _, Below.refl _ _⟩

set_option maxHeartbeats 2000000 in
set_option maxRecDepth 100000 in
theorem rtread_any (w : World) (A : Option Addr) (n c : Nat) (lb : List Nat) (most : Int) (hm0 : 0 ≤ most) (hm1 : most ≤ 9223372036854775807) (hn : lb.length = n) (hN : n ≤ 100000) (h8 : ∀ x ∈ lb, x ≤ 255) (ha : Row w w.heap.size A n 1 (numF .u8 lb)) :
    Calls Try.prog 79 #[.slice A n c, .int .i64 most] w (TRPost (readToks lb most) w) := by
  obtain ⟨j0, hj0, hy0, hy1, hy2⟩ := info_parts info_tok3
  have C1 := Lib.hid (rreader_any w A n c lb hn hN h8 ha)
  have hlb : (rbits lb).length ≤ 800000 := by rw [rbits_length, hn]; omega
  obtain ⟨RT, hRT⟩ : ∃ RT, RT = readToks lb most := ⟨_, rfl⟩
  rw [← hRT]
  unfold readToks at hRT
  rw [if_neg (by omega)] at hRT
  clear hn h8 ha
  generalize rbits lb = bs at *
  have hk1 := readGo_ok (bs := bs) (n := 265) 266 [] false 0 (by simp) (by simp)
  have D1 := Lib.hid (fun wx g hi h1 h2 => r8read_any wx g hi bs 0 265 (by omega) h1 h2)
  change Hid (∀ wx g hi, hi ≤ wx.heap.size → RRd wx g hi bs 0 → Calls _ _ _ _ (RRPost (readGo bs 265 266 [] false 0) g hi bs wx)) at D1
  generalize readGo bs 265 266 [] false 0 = R1 at D1 hk1 hRT
  obtain ⟨ls, e1, a1⟩ := R1
  simp only at hk1 hRT
  have hk2 := readGo_ok (bs := bs) (n := 12) 13 [] false a1 (by simp) (by simp)
  have D2 := Lib.hid (fun wx g hi h1 h2 => r8read_any wx g hi bs a1 12 (by omega) h1 h2)
  change Hid (∀ wx g hi, hi ≤ wx.heap.size → RRd wx g hi bs a1 → Calls _ _ _ _ (RRPost (readGo bs 12 13 [] false a1) g hi bs wx)) at D2
  generalize readGo bs 12 13 [] false a1 = R2 at D2 hk2 hRT
  obtain ⟨lf, e2, a2⟩ := R2
  simp only at hk2 hRT
  have HRT := Lib.hid hRT
  have HK1 := Lib.hid hk1
  have HK2 := Lib.hid hk2
  clear hRT hk1 hk2
  go_enter Try.func79, Try.ntmps79
  go_wp2_with fail
  refine C1.out.mono ?_
  rintro e w1 ⟨g, rfl, hR1, hg, hb1⟩
  have z1 := hb1.size
  have hgl : g < w1.heap.size := by obtain ⟨_, _, h1, _⟩ := hR1; exact h1.lt
  obtain ⟨hi, hhi⟩ : ∃ hi, hi = w1.heap.size := ⟨_, rfl⟩
  have hhi2 : hi ≤ w1.heap.size := by omega
  rw [← hhi] at hR1
  clear hhi
  go_wp2_with fail
  refine (D1.out w1 g hi hhi2 hR1).mono ?_
  rintro e w2 ⟨v1, rfl, hown1, hR2, hk2⟩
  simp only at hown1 hR2
  have z2 := hk2.size
  have HB2 : Hid (Below w.heap.size w w2) := hb1.trans (hk2.below (fun b h => ⟨by omega, by omega⟩))
  have HO1 := Lib.hid hown1
  have HR2 := Lib.hid hR2
  clear hown1 hR2 hR1 hk2 hb1 D1 C1
  by_cases he1 : e1 = 0
  · subst he1
    obtain ⟨hok1, hl1⟩ := HK1.out rfl
    have HOK1 := Lib.hid hok1
    have HL1 := Lib.hid hl1
    clear hok1 hl1 HK1
    go_wp2_with fail
    refine (D2.out w2 g hi (by omega) HR2.out).mono ?_
    rintro e w3 ⟨v2, rfl, hown2, hR3, hk3⟩
    simp only at hown2 hR3
    have z3 := hk3.size
    have HB3 : Hid (Below w.heap.size w w3) := HB2.out.trans (hk3.below (fun b h => ⟨by omega, by omega⟩))
    have HO1b := Lib.hid (own_kept HO1.out (fun x hx => hk3.block x (by have := World.ownsRow.lt HO1.out x hx; exact ⟨this.2, by omega⟩)))
    have HO2 := Lib.hid hown2
    have HR3 := Lib.hid hR3
    clear hown2 hR3 hk3 HO1 HR2 HB2 D2
    by_cases he2 : e2 = 0
    · subst he2
      obtain ⟨hok2, hl2⟩ := HK2.out rfl
      have HOK2 := Lib.hid hok2
      have HL2 := Lib.hid hl2
      have HRT2 : Hid (RT = toksGo ls lf bs (bs.length + 1) most [] a2) := by show _ = _; rw [HRT.out, if_neg (by simp), if_neg (by simp)]
      have hat0 : a2 ≤ bs.length := by obtain ⟨_, _, _, _, h3, _⟩ := HR3.out; exact h3
      clear hok2 hl2 HK2 HRT
      have ho1 := HO1b.out
      have ho2 := HO2.out
      rw [HL1.out] at ho1
      rw [HL2.out] at ho2
      obtain ⟨A1, c1, rfl⟩ := own_shape ho1
      obtain ⟨A2, c2, rfl⟩ := own_shape ho2
      have N1 := Lib.hid (rnew_any w3 A1 265 c1 ls HL1.out HOK1.out (own_wf ho1).1 (Row.of_own ho1 rfl (fun i j hi hj => by have e0 : j = 0 := (by omega); subst e0; exact numL_get (by rw [HL1.out]; exact hi))))
      have hrow2 : Row w3 w3.heap.size A2 12 1 (numF .u8 lf) := Row.of_own ho2 rfl (fun i j hi hj => by have e0 : j = 0 := (by omega); subst e0; exact numL_get (by rw [HL2.out]; exact hi))
      have N2 := Lib.hid (fun wx (h : Below w3.heap.size w3 wx) => rnew_any wx A2 12 c2 lf HL2.out HOK2.out (own_wf ho2).1 ((hrow2.below h).mono h.size))
      clear ho1 ho2 HO1b HO2 hrow2
      go_wp2_with fail
      refine N1.out.mono ?_
      rintro e w4 ⟨vl, vc, rfl, hC1, hb4⟩
      have z4 := hb4.size
      obtain ⟨AL, cL, rfl, _⟩ := hC1.lens
      obtain ⟨AC, cC, rfl, _⟩ := hC1.codes
      rw [HL1.out] at hC1 ⊢
      have HC1 := Lib.hid hC1
      clear hC1 N1
      go_wp2_with fail
      have hbel5 : Below w4.heap.size w4 (w4.alloc (.cells #[.slice AL 265 cL, .slice AC 265 cC] 62)) := bel_alloc0 (Below.refl _ _)
      have blk5 : Blk (w4.alloc (.cells #[.slice AL 265 cL, .slice AC 265 cC] 62)) w4.heap.size 62 #[.slice AL 265 cL, .slice AC 265 cC] := Blk.made _ _ _
      generalize w4.alloc (.cells #[.slice AL 265 cL, .slice AC 265 cC] 62) = w5 at *
      have z5 := blk5.lt
      have hbel35 : Below w3.heap.size w3 w5 := hb4.trans (hbel5.mono z4)
      have HC1b : Hid (RCo w5 w3.heap.size w4.heap.size (.slice AL 265 cL) (.slice AC 265 cC) ls) := HC1.out.kept (Kept.of_below hbel5 (fun k (h : k < w4.heap.size) => h)) (fun _ _ h => h)
      refine (N2.out _ hbel35).mono ?_
      rintro e w6 ⟨vl2, vc2, rfl, hC2, hb6⟩
      have z6 := hb6.size
      obtain ⟨BL, dL, rfl, _⟩ := hC2.lens
      obtain ⟨BC, dC, rfl, _⟩ := hC2.codes
      rw [HL2.out] at hC2 ⊢
      have HC2 := Lib.hid hC2
      have HC1c : Hid (RCo w6 w3.heap.size w4.heap.size (.slice AL 265 cL) (.slice AC 265 cC) ls) := HC1b.out.kept (Kept.of_below hb6 (fun k (h : k < w5.heap.size) => h)) (fun _ _ h => by omega)
      have blk6 := blk5.step hb6
      have hbel36 : Below w3.heap.size w3 w6 := hbel35.trans (hb6.mono (by omega))
      clear hC2 N2 HC1 HC1b blk5 hb4 hbel5 hb6 hbel35
      go_wp2_with fail
      have hbel7 : Below w6.heap.size w6 (w6.alloc (.cells #[.slice BL 12 dL, .slice BC 12 dC] 62)) := bel_alloc0 (Below.refl _ _)
      have blk7 : Blk (w6.alloc (.cells #[.slice BL 12 dL, .slice BC 12 dC] 62)) w6.heap.size 62 #[.slice BL 12 dL, .slice BC 12 dC] := Blk.made _ _ _
      generalize w6.alloc (.cells #[.slice BL 12 dL, .slice BC 12 dC] 62) = w7 at *
      have z7 := blk7.lt
      have hbel37 : Below w3.heap.size w3 w7 := hbel36.trans (hbel7.mono (by omega))
      have HP : Hid (Blk w7 w4.heap.size 62 #[.slice AL 265 cL, .slice AC 265 cC]) := blk6.step hbel7
      have HQ : Hid (Blk w7 w6.heap.size 62 #[.slice BL 12 dL, .slice BC 12 dC]) := blk7
      have HCs : Hid (RCo w7 w3.heap.size w7.heap.size (.slice AL 265 cL) (.slice AC 265 cC) ls) := (HC1c.out.kept (Kept.of_below hbel7 (fun k (h : k < w6.heap.size) => h)) (fun _ _ h => by omega)).mono (Nat.le_refl _) (by omega)
      have HCf : Hid (RCo w7 w3.heap.size w7.heap.size (.slice BL 12 dL) (.slice BC 12 dC) lf) := (HC2.out.kept (Kept.of_below hbel7 (fun k (h : k < w6.heap.size) => h)) (fun _ _ h => by omega)).mono (by omega) (by omega)
      have HB7 : Hid (Below w.heap.size w w7) := HB3.out.trans (hbel37.mono (by omega))
      have HR7 : Hid (RRd w7 g hi bs a2) := HR3.out.keep (fun b h1 h2 => hbel37.block b (by omega))
      clear HC1c HC2 blk6 blk7 hbel36 hbel37 hbel7 HB3 HR3
      have zz : g < w3.heap.size ∧ hi ≤ w3.heap.size ∧ w3.heap.size ≤ w4.heap.size ∧ w4.heap.size < w6.heap.size ∧ w6.heap.size < w7.heap.size := by omega
      clear z2 z3 z4 z5 z6 z7 hhi2 hgl
      obtain ⟨zg, zh, z3, z4, z6⟩ := zz
      generalize w3.heap.size = clo at *
      generalize w4.heap.size = gc at *
      generalize w6.heap.size = gd at *
      go_wp2_with fail
      go_loopw [14, 15] (fun u m wr => ∃ (f at_ k : Nat) (M : Int) (out : List Tk), (0 ≤ M ∧ M ≤ 257 * (k : Int) ∧ M ≤ most) ∧ m = .int .i64 M ∧ k ≤ at_ ∧ at_ ≤ bs.length ∧ Hid (out.length = k) ∧ wr.ownsRow w7.heap.size 35 3 u k (tksL out) ∧ Hid (bs.length + 1 ≤ f + at_) ∧ Hid (toksGo ls lf bs f (most - M) out at_ = RT) ∧ Hid (RRd wr g hi bs at_) ∧ Hid (Kept (fun x => x < w7.heap.size ∧ x ≠ g) w7 wr)) (fun _ m _ => (most - intOf m).toNat)
      case atStart => exact ⟨bs.length + 1, a2, 0, 0, [], ⟨by omega, by omega, hm0⟩, rfl, by omega, hat0, rfl, World.ownsRow_nil _ _ _ _, by show _ ≤ _; omega, by rw [Int.sub_zero]; exact HRT2.out.symm, HR7.out, Kept.refl _ _⟩
      case round =>
        clear HR7 HRT2 hat0
        obtain ⟨f, at_, k, M, out, ⟨hM0, hM1, hM2⟩, rfl, hka, hat, hlen, hown, hf, hgo, hRd, hkp⟩ := hrel
        obtain ⟨f, rfl⟩ : ∃ f', f = f' + 1 := ⟨f - 1, by have := hf.out; omega⟩
        have hkz := hkp.out.size
        have blkc : Blk wr gc _ _ := (hkp.out.block gc ⟨by omega, by omega⟩).trans HP.out
        have p0 := blkc.cell 0
        have p1 := blkc.cell 1
        simp only [List.getElem?_toArray, List.getElem?_cons_zero, List.getElem?_cons_succ] at p0 p1
        clear blkc
        have hend := fun he hm => toksGo_end (T := tokenR ls lf bs at_) (bs := bs) (f := f) (M := most - M) (out := out) rfl he hm
        have herr := fun he => toksGo_err (T := tokenR ls lf bs at_) (bs := bs) (f := f) (M := most - M) (out := out) rfl he
        have hlim := fun he hm hl => toksGo_limit (T := tokenR ls lf bs at_) (bs := bs) (f := f) (M := most - M) (out := out) rfl he hm hl
        have hnext := fun he hm hl => toksGo_next (T := tokenR ls lf bs at_) (bs := bs) (f := f) (M := most - M) (out := out) rfl he hm hl
        have C3 := rget_any wr clo w7.heap.size g hi _ _ ls bs at_ HOK1.out (HCs.out.kept hkp.out (fun b h1 h2 => ⟨by omega, by omega⟩)) hkz hRd.out (by omega)
        unfold RGetPost at C3
        have hdom := getR_dom ls (head bs at_) (there bs at_)
        obtain ⟨G, hG⟩ : ∃ G, G = getR ls (head bs at_) (there bs at_) := ⟨_, rfl⟩
        rw [← hG] at C3 hdom
        obtain ⟨gv, ge, ga⟩ := G
        simp only at C3 hdom
        have C3 := Lib.hid C3
        have HGG := Lib.hid hG
        rw [hgo.out] at hend herr hlim hnext
        clear hG hgo
        by_cases he : ge = 0
        · subst he
          obtain ⟨s, rfl, hs⟩ := hdom rfl
          rw [HL1.out] at hs
          clear hdom
          by_cases h256 : s = 256
          · subst h256
            have HT : tokenR ls lf bs at_ = (⟨0, 0, 0⟩, false, 0, at_ + ga) := by unfold tokenR; rw [← HGG.out]; rfl
            rw [HT] at hend
            have HG1 := Lib.hid (hend rfl rfl)
            simp only at HG1
            clear hend herr hlim hnext HT
            go_wp2_with fail
            refine C3.out.mono ?_
            rintro e w8 ⟨rfl, hRd8, hk8⟩
            have z8 := hk8.size
            have hK8 : Kept (fun x => x < w7.heap.size ∧ x ≠ g) w7 w8 := hkp.out.trans ⟨hk8.os, hk8.tape, hk8.output, hk8.size, fun b h => hk8.block b ⟨by have := h.1; omega, h.2⟩⟩
            have HB8 : Hid (Below w.heap.size w w8) := HB7.out.trans (hK8.below (fun b h => ⟨by omega, by omega⟩))
            have hown8 : w8.ownsRow w7.heap.size 35 3 _ k (tksL out) := own_kept hown (fun x hx => hk8.block x (by have := World.ownsRow.lt hown x hx; exact ⟨this.2, by omega⟩))
            have C4 := rpad_any w8 g hi bs (at_ + ga) hRd8
            rcases padE_two bs (at_ + ga) with hp | hp
            · rw [hp] at C4
              have HG2 : Hid (RT = (out, 0)) := by show _ = _; rw [HG1.out, if_pos hp]
              have C4 := Lib.hid C4
              clear hp HG1
              go_wp2_with fail
              refine C4.out.mono ?_
              rintro e w9 ⟨rfl, q, rfl⟩
              go_wp2_with fail
              go_ret2
              rw [HG2.out]
              refine ⟨_, rfl, ?_, below_drewN HB8.out q⟩
              show World.ownsRow _ _ _ _ _ out.length _
              rw [hlen.out]
              exact own_mono hown8 (by omega)
            · rw [hp] at C4
              have HG2 : Hid (RT = ([], 2)) := by show _ = _; rw [HG1.out, if_neg (by rw [hp]; decide)]
              have C4 := Lib.hid C4
              clear hp HG1
              go_wp2_with fail
              refine C4.out.mono ?_
              rintro e w9 ⟨rfl, q, rfl⟩
              go_wp2_with fail
              go_ret2
              rw [HG2.out]
              exact ⟨_, rfl, World.ownsRow_nil _ _ _ _, below_drewN HB8.out q⟩
          · have hsb : ((s : Int) == 256) = false := by simp; omega
            by_cases hlt : s < 256
            · obtain ⟨hj1, hj2⟩ := Toks.join_lit (s : Int) (by omega) (by omega)
              have HT : tokenR ls lf bs at_ = (joinT ⟨(s : Int), 0, 0, 0⟩, true, 0, at_ + ga) := by
                unfold tokenR
                rw [← HGG.out, hj1]
                simp only
                rw [if_neg (by omega), if_neg (by omega), if_pos (by omega)]
              have HJ := fun wx => Toks.ref_join ⟨(s : Int), 0, 0, 0⟩ wx (by simp only; omega) (by simp only; omega) (by simp) (by simp)
              rw [hj2] at HJ
              have hmay := tokenR_may (ls := ls) (lf := lf) (by rw [HL1.out]; omega) (by rw [HL2.out]; omega) bs (at_ := at_)
              rw [HT] at hlim hnext hmay
              have HLIM := Lib.hid (hlim rfl rfl)
              have HNEXT := Lib.hid (hnext rfl rfl)
              obtain ⟨hmay, hadv⟩ := hmay rfl
              have hmay := hmay rfl
              generalize joinT ⟨(s : Int), 0, 0, 0⟩ = t at *
              obtain ⟨ta, hta⟩ : ∃ ta, ta = at_ + ga := ⟨_, rfl⟩
              rw [← hta] at C3 HNEXT hadv
              obtain ⟨lit, len, dist⟩ := t
              obtain ⟨_, ⟨l0, l1⟩, l2, l3⟩ := hmay
              unfold Toks.Tk.val Toks.Pc.val at HJ
              simp only at HLIM HNEXT hadv l0 l1 l2 l3 HJ
              have HJ := Lib.hid HJ
              clear hend herr hlim hnext HT
              clear hta hj1 hj2 h256
              go_wp2_with fail
              refine C3.out.mono ?_
              rintro e w8 ⟨rfl, hRd8, hk8⟩
              have z8 := hk8.size
              have hK8 : Kept (fun x => x < w7.heap.size ∧ x ≠ g) w7 w8 := hkp.out.trans ⟨hk8.os, hk8.tape, hk8.output, hk8.size, fun b h => hk8.block b ⟨by have := h.1; omega, h.2⟩⟩
              have HB8 : Hid (Below w.heap.size w w8) := HB7.out.trans (hK8.below (fun b h => ⟨by omega, by omega⟩))
              have hown8 : w8.ownsRow w7.heap.size 35 3 _ k (tksL out) := own_kept hown (fun x hx => hk8.block x (by have := World.ownsRow.lt hown x hx; exact ⟨this.2, by omega⟩))
              go_wp2_with fail
              have HR9 : Hid (RRd (w8.alloc (.cells #[.int .i64 (s : Nat), .int .i64 0, .int .i64 0, .int .i64 0] 37)) g hi bs ta) := hRd8.keep (fun b _ h => Below.heap_alloc w8 _ b (by omega))
              have K9 : Hid (Kept (fun x => x < w7.heap.size ∧ x ≠ g) w7 (w8.alloc (.cells #[.int .i64 (s : Nat), .int .i64 0, .int .i64 0, .int .i64 0] 37))) := hK8.alloc (fun b h => by have := h.1; omega) _
              have HO9 : Hid ((w8.alloc (.cells #[.int .i64 (s : Nat), .int .i64 0, .int .i64 0, .int .i64 0] 37)).ownsRow w7.heap.size 35 3 _ k (tksL out)) := hown8.alloc _
              generalize w8.alloc (.cells #[.int .i64 (s : Nat), .int .i64 0, .int .i64 0, .int .i64 0] 37) = w9 at *
              clear hRd8 hK8 hown8 HB8 hk8 hown hRd hkp C3 p0 p1
              have z9 := K9.out.size
              by_cases hl0 : 0 < len
              · by_cases hl : most - M - len < 0
                · refine (HJ.out _).mono ?_
                  rintro e w10 ⟨rfl, hb10⟩
                  have z10 := hb10.size
                  go_wp2_with fail
                  go_ret2
                  rw [HLIM.out (by omega)]
                  exact ⟨_, rfl, World.ownsRow_nil _ _ _ _, bel_alloc (by omega) ((HB7.out.trans (K9.out.below (fun b h => ⟨by omega, by omega⟩))).trans (hb10.mono (by omega)))⟩
                · have hq : M + len ≤ most ∧ M + len ≤ 257 * ((k : Int) + 1) := by omega
                  have HNX : Hid (toksGo ls lf bs f (most - (M + len)) (out ++ [⟨lit, len, dist⟩]) ta = RT) := by
                    show _ = _
                    rw [HNEXT.out (by omega)]
                    congr 1
                    omega
                  refine (HJ.out _).mono ?_
                  rintro e w10 ⟨rfl, hb10⟩
                  have z10 := hb10.size
                  have hat2 : ta ≤ bs.length := by obtain ⟨_, _, _, _, h3, _⟩ := HR9.out; exact h3
                  have HO10 := Lib.hid (own_kept HO9.out (fun x hx => hb10.block x (World.ownsRow.lt HO9.out x hx).2))
                  have HK10 : Hid (Kept (fun x => x < w7.heap.size ∧ x ≠ g) w7 w10) := K9.out.trans (Kept.of_below hb10 (fun b h => by have := h.1; omega))
                  have HR10 : Hid (RRd w10 g hi bs ta) := HR9.out.keep (fun b _ h => hb10.block b (by omega))
                  have z11 := HK10.out.size
                  obtain ⟨va, vc, rfl⟩ := own_shape HO10.out
                  clear hb10 HO9 K9 HR9
                  go_wp2_with (at_builtin; refine wpList_app rfl (.tmp 122) (.tmp 124) 43 rfl w7.heap.size 35 j0 _ 3 24 Try.underlying43 hj0 hy0 hy1 hy2 rfl (by decide) _ _ _ (by rfl) ((HO10.out.alloc _).alloc _) _ 1 1 [.int .u8 lit, .int .i64 _, .int .i64 dist] (by rfl) (Src.of_blk (g := w10.heap.size + 1) (Blk.made_at _ _ _ (by simp)) 1 1 3 rfl) (by intro u hu; simp at hu; rcases hu with rfl | rfl | rfl <;> rfl) (by unfold maxLen; omega) (by omega) (by simp; omega) ?_; intro v4 w11 hown11 hg11 hat11)
                  go_roundw
                  case measure => go_light; simp only [intOf]; omega
                  case rel =>
                    go_light
                    refine ⟨f, ta, k + 1, M + len, out ++ [⟨lit, len, dist⟩], ⟨by omega, by omega, hq.1⟩, by congr 1; omega, by omega, hat2, ?_, ?_, ?_, HNX, ?_, ?_⟩
                    · show (out ++ [_]).length = k + 1; rw [List.length_append, hlen.out]; rfl
                    · rw [tksL_snoc]; exact hown11
                    · show _ ≤ _; have := hf.out; omega
                    · exact HR10.out.keep (fun b _ h2 => (hg11.block b (by simp; omega) (fun h => by have := (World.ownsRow.lt HO10.out b h.symm).1; omega)).trans ((Below.heap_alloc _ _ b (by simp; omega)).trans (Below.heap_alloc w10 _ b (by omega))))
                    · exact ((HK10.out.alloc (fun b h => by have := h.1; omega) _).alloc (fun b h => by have := h.1; simp; omega) _).grown hg11 (fun b h => by have := h.1; simp; omega) (fun b hb hh => by have := (World.ownsRow.lt HO10.out b hb).1; have := hh.1; omega)
              · obtain rfl : len = 0 := by omega
                by_cases hl : most - M - 1 < 0
                · refine (HJ.out _).mono ?_
                  rintro e w10 ⟨rfl, hb10⟩
                  have z10 := hb10.size
                  go_wp2_with fail
                  go_ret2
                  rw [HLIM.out (by omega)]
                  exact ⟨_, rfl, World.ownsRow_nil _ _ _ _, bel_alloc (by omega) ((HB7.out.trans (K9.out.below (fun b h => ⟨by omega, by omega⟩))).trans (hb10.mono (by omega)))⟩
                · have hq : M + 1 ≤ most ∧ M + 1 ≤ 257 * ((k : Int) + 1) := by omega
                  have HNX : Hid (toksGo ls lf bs f (most - (M + 1)) (out ++ [⟨lit, 0, dist⟩]) ta = RT) := by
                    show _ = _
                    rw [HNEXT.out (by omega)]
                    congr 1
                    omega
                  refine (HJ.out _).mono ?_
                  rintro e w10 ⟨rfl, hb10⟩
                  have z10 := hb10.size
                  have hat2 : ta ≤ bs.length := by obtain ⟨_, _, _, _, h3, _⟩ := HR9.out; exact h3
                  have HO10 := Lib.hid (own_kept HO9.out (fun x hx => hb10.block x (World.ownsRow.lt HO9.out x hx).2))
                  have HK10 : Hid (Kept (fun x => x < w7.heap.size ∧ x ≠ g) w7 w10) := K9.out.trans (Kept.of_below hb10 (fun b h => by have := h.1; omega))
                  have HR10 : Hid (RRd w10 g hi bs ta) := HR9.out.keep (fun b _ h => hb10.block b (by omega))
                  have z11 := HK10.out.size
                  obtain ⟨va, vc, rfl⟩ := own_shape HO10.out
                  clear hb10 HO9 K9 HR9
                  go_wp2_with (at_builtin; refine wpList_app rfl (.tmp 122) (.tmp 124) 43 rfl w7.heap.size 35 j0 _ 3 24 Try.underlying43 hj0 hy0 hy1 hy2 rfl (by decide) _ _ _ (by rfl) ((HO10.out.alloc _).alloc _) _ 1 1 [.int .u8 lit, .int .i64 _, .int .i64 dist] (by rfl) (Src.of_blk (g := w10.heap.size + 1) (Blk.made_at _ _ _ (by simp)) 1 1 3 rfl) (by intro u hu; simp at hu; rcases hu with rfl | rfl | rfl <;> rfl) (by unfold maxLen; omega) (by omega) (by simp; omega) ?_; intro v4 w11 hown11 hg11 hat11)
                  go_roundw
                  case measure => go_light; simp only [intOf]; omega
                  case rel =>
                    go_light
                    refine ⟨f, ta, k + 1, M + 1, out ++ [⟨lit, 0, dist⟩], ⟨by omega, by omega, hq.1⟩, rfl, by omega, hat2, ?_, ?_, ?_, HNX, ?_, ?_⟩
                    · show (out ++ [_]).length = k + 1; rw [List.length_append, hlen.out]; rfl
                    · rw [tksL_snoc]; exact hown11
                    · show _ ≤ _; have := hf.out; omega
                    · exact HR10.out.keep (fun b _ h2 => (hg11.block b (by simp; omega) (fun h => by have := (World.ownsRow.lt HO10.out b h.symm).1; omega)).trans ((Below.heap_alloc _ _ b (by simp; omega)).trans (Below.heap_alloc w10 _ b (by omega))))
                    · exact ((HK10.out.alloc (fun b h => by have := h.1; omega) _).alloc (fun b h => by have := h.1; simp; omega) _).grown hg11 (fun b h => by have := h.1; simp; omega) (fun b hb hh => by have := (World.ownsRow.lt HO10.out b hb).1; have := hh.1; omega)
            · obtain ⟨m, hm⟩ : ∃ m, m = s - 257 := ⟨_, rfl⟩
              have hmv : (s : Int) - 257 = (m : Int) := by omega
              have s1 : IntKind.i64.wrap ((s : Int) - 257) = (m : Int) := by rw [IntWalk.i64_in _ (by omega), hmv]
              have hm8 : m ≤ 7 := by omega
              have h257 : 257 ≤ s := by omega
              have HT0 : tokenR ls lf bs at_ = ((matchR lf bs s (at_ + ga)).1, decide ((matchR lf bs s (at_ + ga)).2.1 = 0), (matchR lf bs s (at_ + ga)).2.1, (matchR lf bs s (at_ + ga)).2.2) := by
                unfold tokenR
                rw [← HGG.out]
                simp only
                rw [if_neg (by omega), if_neg (by omega), if_neg (by omega), Int.toNat_natCast]
              have HT0 := Lib.hid HT0
              have HEND := Lib.hid hend
              have HERR := Lib.hid herr
              have HLIM0 := Lib.hid hlim
              have HNEXT0 := Lib.hid hnext
              have HM := Lib.hid hm
              have HMV := Lib.hid hmv
              obtain ⟨a3, ha3⟩ : ∃ a3, a3 = at_ + ga := ⟨_, rfl⟩
              rw [← ha3] at C3 HT0
              have HA3 := Lib.hid ha3
              clear hend herr hlim hnext h256 hm hmv ha3 hlt
              go_wp2_with fail
              refine C3.out.mono ?_
              rintro e w8 ⟨rfl, hRd8, hk8⟩
              have z8 := hk8.size
              have hK8 : Kept (fun x => x < w7.heap.size ∧ x ≠ g) w7 w8 := hkp.out.trans ⟨hk8.os, hk8.tape, hk8.output, hk8.size, fun b h => hk8.block b ⟨by have := h.1; omega, h.2⟩⟩
              have HB8 : Hid (Below w.heap.size w w8) := HB7.out.trans (hK8.below (fun b h => ⟨by omega, by omega⟩))
              have hown8 : w8.ownsRow w7.heap.size 35 3 _ k (tksL out) := own_kept hown (fun x hx => hk8.block x (by have := World.ownsRow.lt hown x hx; exact ⟨this.2, by omega⟩))
              go_wp2_with fail
              have blkP : Blk (w8.alloc (.cells #[.int .i64 (s : Nat), .int .i64 0, .int .i64 0, .int .i64 0] 37)) w8.heap.size 37 #[.int .i64 (s : Nat), .int .i64 0, .int .i64 0, .int .i64 0] := Blk.made _ _ _
              have L9 : Kept (fun x => x < w8.heap.size ∧ x ≠ g) w8 (w8.alloc (.cells #[.int .i64 (s : Nat), .int .i64 0, .int .i64 0, .int .i64 0] 37)) := Kept.of_below (bel_alloc0 (Below.refl _ _)) (fun b h => h.1)
              have hRd9 : RRd (w8.alloc (.cells #[.int .i64 (s : Nat), .int .i64 0, .int .i64 0, .int .i64 0] 37)) g hi bs a3 := hRd8.keep (fun b _ h => Below.heap_alloc w8 _ b (by omega))
              generalize w8.alloc (.cells #[.int .i64 (s : Nat), .int .i64 0, .int .i64 0, .int .i64 0] 37) = w9 at *
              have C4 := rbget_any w9 g hi bs a3 m (by omega) hRd9
              have HRd9 := Lib.hid hRd9
              have HO8 := Lib.hid hown8
              have HK8 := Lib.hid hK8
              clear hRd8 hRd9 hown8 hK8 hk8 hown hRd hkp C3 p0 p1
              by_cases hin : a3 + m ≤ bs.length
              · rw [(got_ok hin).1, (got_ok hin).2.1, (got_ok hin).2.2] at C4
                have C4 := Lib.hid C4
                have HIN := Lib.hid hin
                have hxl := accB_lt bs a3 m
                have hx8 : accB bs a3 m < 256 := Nat.lt_of_lt_of_le hxl (by have : 2 ^ m ≤ 2 ^ 8 := Nat.pow_le_pow_right (by omega) (by omega); omega)
                obtain ⟨x, hx⟩ : ∃ x, x = accB bs a3 m := ⟨_, rfl⟩
                rw [← hx] at C4 hx8
                have HX := Lib.hid hx
                clear hx hxl hin
                refine C4.out.mono ?_
                rintro e w10 ⟨rfl, hRd10, hk10⟩
                have blkP : Blk w10 w8.heap.size _ _ := (hk10.block w8.heap.size (by show w8.heap.size ≠ g; omega)).trans blkP
                have L10 := L9.trans ⟨hk10.os, hk10.tape, hk10.output, hk10.size, fun b h => hk10.block b h.2⟩
                have y0 := blkP.frozen 1
                have y6 := blkP.cell 1
                simp only [List.getElem?_toArray, List.getElem?_cons_zero, List.getElem?_cons_succ] at y6
                have z10 := blkP.lt
                have blkd : Blk w10 gd _ _ := ((HK8.out.trans ⟨L10.os, L10.tape, L10.output, L10.size, fun b h => L10.block b ⟨by have := h.1; omega, h.2⟩⟩).block gd ⟨by omega, by omega⟩).trans HQ.out
                have q0 := blkd.cell 0
                have q1 := blkd.cell 1
                simp only [List.getElem?_toArray, List.getElem?_cons_zero, List.getElem?_cons_succ] at q0 q1
                have hgd : gd ≠ w8.heap.size := by omega
                clear L9 hk10 C4 blkd
                go_wp2_with fail
                have blkP11 : Blk (w10.setCell ⟨w8.heap.size, 1, none⟩ (.int .i64 (x : Nat))) w8.heap.size 37 #[.int .i64 (s : Nat), .int .i64 (x : Nat), .int .i64 0, .int .i64 0] := blkP.set 1 _
                have L11 : Kept (fun x => x < w8.heap.size ∧ x ≠ g) w8 (w10.setCell ⟨w8.heap.size, 1, none⟩ (.int .i64 (x : Nat))) := L10.set (fun h => absurd h.1 (Nat.lt_irrefl _)) _
                have hRd11 : RRd (w10.setCell ⟨w8.heap.size, 1, none⟩ (.int .i64 (x : Nat))) g hi bs (a3 + m) := hRd10.keep (fun b _ h => Below.heap_setCell _ _ _ b (by show b ≠ w8.heap.size; omega))
                have z11 := L11.size
                generalize w10.setCell ⟨w8.heap.size, 1, none⟩ (.int .i64 (x : Nat)) = w11 at *
                have K11 : Kept (fun x => x < w7.heap.size ∧ x ≠ g) w7 w11 := HK8.out.trans ⟨L11.os, L11.tape, L11.output, L11.size, fun b h => L11.block b ⟨by have := h.1; omega, h.2⟩⟩
                have C5 := rget_any w11 clo w7.heap.size g hi _ _ lf bs (a3 + m) HOK2.out (HCf.out.kept K11 (fun b h1 h2 => ⟨by omega, by omega⟩)) (by omega) hRd11 (by omega)
                unfold RGetPost at C5
                have hdom := getR_dom lf (head bs (a3 + m)) (there bs (a3 + m))
                obtain ⟨G, hG⟩ : ∃ G, G = getR lf (head bs (a3 + m)) (there bs (a3 + m)) := ⟨_, rfl⟩
                rw [← hG] at C5 hdom
                obtain ⟨hv, he, hx⟩ := G
                simp only at C5 hdom
                have HG2 := Lib.hid hG
                clear hG L10 blkP q0 q1 y0 y6 hRd10 K11 hRd11
                refine C5.mono ?_
                rintro e w12 ⟨rfl, hRd12, hk12⟩
                have blkP12 : Blk w12 w8.heap.size _ _ := (hk12.block w8.heap.size ⟨blkP11.lt, by omega⟩).trans blkP11
                have L12 : Kept (fun x => x < w8.heap.size ∧ x ≠ g) w8 w12 := L11.trans ⟨hk12.os, hk12.tape, hk12.output, hk12.size, fun b h => hk12.block b ⟨by have := h.1; omega, h.2⟩⟩
                have y0 := blkP12.frozen 2
                have y5 := blkP12.cell 2
                simp only [List.getElem?_toArray, List.getElem?_cons_zero, List.getElem?_cons_succ] at y5
                have z12 := L12.size
                clear blkP11 L11 C5 hk12
                by_cases hge : he = 0
                · subst hge
                  obtain ⟨r, rfl, hr⟩ := hdom rfl
                  rw [HL2.out] at hr
                  clear hdom
                  go_wp2_with fail
                  have blkP13 : Blk (w12.setCell ⟨w8.heap.size, 2, none⟩ (.int .i64 (r : Nat))) w8.heap.size 37 #[.int .i64 (s : Nat), .int .i64 (x : Nat), .int .i64 (r : Nat), .int .i64 0] := blkP12.set 2 _
                  have L13 : Kept (fun x => x < w8.heap.size ∧ x ≠ g) w8 (w12.setCell ⟨w8.heap.size, 2, none⟩ (.int .i64 (r : Nat))) := L12.set (fun h => absurd h.1 (Nat.lt_irrefl _)) _
                  have hRd13 : RRd (w12.setCell ⟨w8.heap.size, 2, none⟩ (.int .i64 (r : Nat))) g hi bs (a3 + m + hx) := hRd12.keep (fun b _ h => Below.heap_setCell _ _ _ b (by show b ≠ w8.heap.size; omega))
                  have z13 := L13.size
                  generalize w12.setCell ⟨w8.heap.size, 2, none⟩ (.int .i64 (r : Nat)) = w13 at *
                  clear blkP12 L12 y0 y5 hRd12
                  have C6 := rbget_any w13 g hi bs (a3 + m + hx) r (by omega) hRd13
                  by_cases hin : a3 + m + hx + r ≤ bs.length
                  · rw [(got_ok hin).1, (got_ok hin).2.1, (got_ok hin).2.2] at C6
                    have hyl := accB_lt bs (a3 + m + hx) r
                    have hy8 : accB bs (a3 + m + hx) r < 4096 := Nat.lt_of_lt_of_le hyl (by have : 2 ^ r ≤ 2 ^ 11 := Nat.pow_le_pow_right (by omega) (by omega); omega)
                    have hyr : accB bs (a3 + m + hx) r < 2 ^ r := hyl
                    obtain ⟨y, hy⟩ : ∃ y, y = accB bs (a3 + m + hx) r := ⟨_, rfl⟩
                    have hM1 : matchR lf bs s a3 = (joinT ⟨(s : Int), (x : Int), (r : Int), (y : Int)⟩, joinE ⟨(s : Int), (x : Int), (r : Int), (y : Int)⟩, a3 + m + hx + r) := by
                      unfold matchR
                      rw [← HM.out, if_neg (fun h => h HIN.out), ← HG2.out]
                      simp only [ne_eq, not_true_eq_false, if_false, Int.toNat_natCast]
                      rw [if_neg (fun h => h hin), ← HX.out, ← hy]
                    have hxl := accB_lt bs a3 m
                    rw [← HX.out] at hxl
                    rw [← hy] at C6 hyr hy8
                    have hj0 : joinE ⟨(s : Int), (x : Int), (r : Int), (y : Int)⟩ = 0 := join_ok (by omega) (by omega) (by omega) (by rw [← HM.out]; exact hxl) hyr
                    rw [hj0] at hM1
                    have HT : tokenR ls lf bs at_ = (joinT ⟨(s : Int), (x : Int), (r : Int), (y : Int)⟩, true, 0, a3 + m + hx + r) := by
                      rw [HT0.out, hM1]
                      rfl
                    have HJ := fun wx => Toks.ref_join ⟨(s : Int), (x : Int), (r : Int), (y : Int)⟩ wx (by simp only; omega) (by simp only; omega) (by simp only; omega) (by simp only; omega)
                    rw [hj0] at HJ
                    have hlim := HLIM0.out
                    have hnext := HNEXT0.out
                    have hend := trivial
                    have herr := trivial
                    have hmay := tokenR_may (ls := ls) (lf := lf) (by rw [HL1.out]; omega) (by rw [HL2.out]; omega) bs (at_ := at_)
                    rw [HT] at hlim hnext hmay
                    have HLIM := Lib.hid (hlim rfl rfl)
                    have HNEXT := Lib.hid (hnext rfl rfl)
                    obtain ⟨hmay, hadv⟩ := hmay rfl
                    have hmay := hmay rfl
                    generalize joinT ⟨(s : Int), (x : Int), (r : Int), (y : Int)⟩ = t at *
                    obtain ⟨ta, hta⟩ : ∃ ta, ta = a3 + m + hx + r := ⟨_, rfl⟩
                    rw [← hta] at C6 HNEXT hadv
                    obtain ⟨lit, len, dist⟩ := t
                    obtain ⟨_, ⟨l0, l1⟩, l2, l3⟩ := hmay
                    unfold Toks.Tk.val Toks.Pc.val at HJ
                    simp only at HLIM HNEXT hadv l0 l1 l2 l3 HJ
                    have HJ := Lib.hid HJ
                    clear hend herr hlim hnext HT
                    clear hta hy hyl hyr hxl hM1 hj0 hin
                    refine C6.mono ?_
                    rintro e w14 ⟨rfl, hRd14, hk14⟩
                    have blkP14 : Blk w14 w8.heap.size _ _ := (hk14.block w8.heap.size (by show w8.heap.size ≠ g; omega)).trans blkP13
                    have L14 : Kept (fun x => x < w8.heap.size ∧ x ≠ g) w8 w14 := L13.trans ⟨hk14.os, hk14.tape, hk14.output, hk14.size, fun b h => hk14.block b h.2⟩
                    have y0 := blkP14.frozen 3
                    have y1 := blkP14.cell 0
                    have y2 := blkP14.cell 1
                    have y3 := blkP14.cell 2
                    have y4 := blkP14.cell 3
                    simp only [List.getElem?_toArray, List.getElem?_cons_zero, List.getElem?_cons_succ] at y1 y2 y3 y4
                    have z14 := L14.size
                    clear blkP13 L13 C6 hk14 hRd13
                    go_wp2_with fail
                    have L15 : Kept (fun x => x < w8.heap.size ∧ x ≠ g) w8 (w14.setCell ⟨w8.heap.size, 3, none⟩ (.int .i64 (y : Nat))) := L14.set (fun h => absurd h.1 (Nat.lt_irrefl _)) _
                    have HR9 : Hid (RRd (w14.setCell ⟨w8.heap.size, 3, none⟩ (.int .i64 (y : Nat))) g hi bs ta) := hRd14.keep (fun b _ h => Below.heap_setCell _ _ _ b (by show b ≠ w8.heap.size; omega))
                    generalize w14.setCell ⟨w8.heap.size, 3, none⟩ (.int .i64 (y : Nat)) = w15 at *
                    have K9 : Hid (Kept (fun x => x < w7.heap.size ∧ x ≠ g) w7 w15) := HK8.out.trans ⟨L15.os, L15.tape, L15.output, L15.size, fun b h => L15.block b ⟨by have := h.1; omega, h.2⟩⟩
                    have HO9 := Lib.hid (own_kept HO8.out (fun x hx => L15.block x (by have := World.ownsRow.lt HO8.out x hx; exact ⟨this.2, by omega⟩)))
                    have z9 := K9.out.size
                    clear L14 L15 blkP14 y0 y1 y2 y3 y4 hRd14 HO8 HK8
                    by_cases hl0 : 0 < len
                    · by_cases hl : most - M - len < 0
                      · refine (HJ.out _).mono ?_
                        rintro e w10 ⟨rfl, hb10⟩
                        have z10 := hb10.size
                        go_wp2_with fail
                        go_ret2
                        rw [HLIM.out (by omega)]
                        exact ⟨_, rfl, World.ownsRow_nil _ _ _ _, bel_alloc (by omega) ((HB7.out.trans (K9.out.below (fun b h => ⟨by omega, by omega⟩))).trans (hb10.mono (by omega)))⟩
                      · have hq : M + len ≤ most ∧ M + len ≤ 257 * ((k : Int) + 1) := by omega
                        have HNX : Hid (toksGo ls lf bs f (most - (M + len)) (out ++ [⟨lit, len, dist⟩]) ta = RT) := by
                          show _ = _
                          rw [HNEXT.out (by omega)]
                          congr 1
                          omega
                        refine (HJ.out _).mono ?_
                        rintro e w10 ⟨rfl, hb10⟩
                        have z10 := hb10.size
                        have hat2 : ta ≤ bs.length := by obtain ⟨_, _, _, _, h3, _⟩ := HR9.out; exact h3
                        have HO10 := Lib.hid (own_kept HO9.out (fun x hx => hb10.block x (World.ownsRow.lt HO9.out x hx).2))
                        have HK10 : Hid (Kept (fun x => x < w7.heap.size ∧ x ≠ g) w7 w10) := K9.out.trans (Kept.of_below hb10 (fun b h => by have := h.1; omega))
                        have HR10 : Hid (RRd w10 g hi bs ta) := HR9.out.keep (fun b _ h => hb10.block b (by omega))
                        have z11 := HK10.out.size
                        obtain ⟨va, vc, rfl⟩ := own_shape HO10.out
                        clear hb10 HO9 K9 HR9
                        go_wp2_with (at_builtin; refine wpList_app rfl (.tmp 122) (.tmp 124) 43 rfl w7.heap.size 35 j0 _ 3 24 Try.underlying43 hj0 hy0 hy1 hy2 rfl (by decide) _ _ _ (by rfl) ((HO10.out.alloc _).alloc _) _ 1 1 [.int .u8 lit, .int .i64 _, .int .i64 dist] (by rfl) (Src.of_blk (g := w10.heap.size + 1) (Blk.made_at _ _ _ (by simp)) 1 1 3 rfl) (by intro u hu; simp at hu; rcases hu with rfl | rfl | rfl <;> rfl) (by unfold maxLen; omega) (by omega) (by simp; omega) ?_; intro v4 w11 hown11 hg11 hat11)
                        go_roundw
                        case measure => go_light; simp only [intOf]; omega
                        case rel =>
                          go_light
                          refine ⟨f, ta, k + 1, M + len, out ++ [⟨lit, len, dist⟩], ⟨by omega, by omega, hq.1⟩, by congr 1; omega, by omega, hat2, ?_, ?_, ?_, HNX, ?_, ?_⟩
                          · show (out ++ [_]).length = k + 1; rw [List.length_append, hlen.out]; rfl
                          · rw [tksL_snoc]; exact hown11
                          · show _ ≤ _; have := hf.out; omega
                          · exact HR10.out.keep (fun b _ h2 => (hg11.block b (by simp; omega) (fun h => by have := (World.ownsRow.lt HO10.out b h.symm).1; omega)).trans ((Below.heap_alloc _ _ b (by simp; omega)).trans (Below.heap_alloc w10 _ b (by omega))))
                          · exact ((HK10.out.alloc (fun b h => by have := h.1; omega) _).alloc (fun b h => by have := h.1; simp; omega) _).grown hg11 (fun b h => by have := h.1; simp; omega) (fun b hb hh => by have := (World.ownsRow.lt HO10.out b hb).1; have := hh.1; omega)
                    · obtain rfl : len = 0 := by omega
                      by_cases hl : most - M - 1 < 0
                      · refine (HJ.out _).mono ?_
                        rintro e w10 ⟨rfl, hb10⟩
                        have z10 := hb10.size
                        go_wp2_with fail
                        go_ret2
                        rw [HLIM.out (by omega)]
                        exact ⟨_, rfl, World.ownsRow_nil _ _ _ _, bel_alloc (by omega) ((HB7.out.trans (K9.out.below (fun b h => ⟨by omega, by omega⟩))).trans (hb10.mono (by omega)))⟩
                      · have hq : M + 1 ≤ most ∧ M + 1 ≤ 257 * ((k : Int) + 1) := by omega
                        have HNX : Hid (toksGo ls lf bs f (most - (M + 1)) (out ++ [⟨lit, 0, dist⟩]) ta = RT) := by
                          show _ = _
                          rw [HNEXT.out (by omega)]
                          congr 1
                          omega
                        refine (HJ.out _).mono ?_
                        rintro e w10 ⟨rfl, hb10⟩
                        have z10 := hb10.size
                        have hat2 : ta ≤ bs.length := by obtain ⟨_, _, _, _, h3, _⟩ := HR9.out; exact h3
                        have HO10 := Lib.hid (own_kept HO9.out (fun x hx => hb10.block x (World.ownsRow.lt HO9.out x hx).2))
                        have HK10 : Hid (Kept (fun x => x < w7.heap.size ∧ x ≠ g) w7 w10) := K9.out.trans (Kept.of_below hb10 (fun b h => by have := h.1; omega))
                        have HR10 : Hid (RRd w10 g hi bs ta) := HR9.out.keep (fun b _ h => hb10.block b (by omega))
                        have z11 := HK10.out.size
                        obtain ⟨va, vc, rfl⟩ := own_shape HO10.out
                        clear hb10 HO9 K9 HR9
                        go_wp2_with (at_builtin; refine wpList_app rfl (.tmp 122) (.tmp 124) 43 rfl w7.heap.size 35 j0 _ 3 24 Try.underlying43 hj0 hy0 hy1 hy2 rfl (by decide) _ _ _ (by rfl) ((HO10.out.alloc _).alloc _) _ 1 1 [.int .u8 lit, .int .i64 _, .int .i64 dist] (by rfl) (Src.of_blk (g := w10.heap.size + 1) (Blk.made_at _ _ _ (by simp)) 1 1 3 rfl) (by intro u hu; simp at hu; rcases hu with rfl | rfl | rfl <;> rfl) (by unfold maxLen; omega) (by omega) (by simp; omega) ?_; intro v4 w11 hown11 hg11 hat11)
                        go_roundw
                        case measure => go_light; simp only [intOf]; omega
                        case rel =>
                          go_light
                          refine ⟨f, ta, k + 1, M + 1, out ++ [⟨lit, 0, dist⟩], ⟨by omega, by omega, hq.1⟩, rfl, by omega, hat2, ?_, ?_, ?_, HNX, ?_, ?_⟩
                          · show (out ++ [_]).length = k + 1; rw [List.length_append, hlen.out]; rfl
                          · rw [tksL_snoc]; exact hown11
                          · show _ ≤ _; have := hf.out; omega
                          · exact HR10.out.keep (fun b _ h2 => (hg11.block b (by simp; omega) (fun h => by have := (World.ownsRow.lt HO10.out b h.symm).1; omega)).trans ((Below.heap_alloc _ _ b (by simp; omega)).trans (Below.heap_alloc w10 _ b (by omega))))
                          · exact ((HK10.out.alloc (fun b h => by have := h.1; omega) _).alloc (fun b h => by have := h.1; simp; omega) _).grown hg11 (fun b h => by have := h.1; simp; omega) (fun b hb hh => by have := (World.ownsRow.lt HO10.out b hb).1; have := hh.1; omega)
                  · rw [(got_no hin).1, (got_no hin).2.1, (got_no hin).2.2] at C6
                    have hM1 : matchR lf bs s a3 = (⟨0, 0, 0⟩, 1, a3 + m + hx) := by
                      unfold matchR
                      rw [← HM.out, if_neg (fun h => h HIN.out), ← HG2.out]
                      simp only [ne_eq, not_true_eq_false, if_false, Int.toNat_natCast]
                      rw [if_pos hin]
                    have HG1 : Hid (RT = ([], 1)) := by
                      have h := HT0.out
                      rw [hM1] at h
                      have h2 := HERR.out
                      rw [h] at h2
                      exact h2 (by simp)
                    clear hin hM1
                    refine C6.mono ?_
                    rintro e w14 ⟨rfl, hRd14, hk14⟩
                    have z14 := hk14.size
                    go_wp2_with fail
                    go_ret2
                    rw [HG1.out]
                    exact ⟨_, rfl, World.ownsRow_nil _ _ _ _, HB8.out.trans ((L13.trans ⟨hk14.os, hk14.tape, hk14.output, hk14.size, fun b h => hk14.block b h.2⟩).below (fun b h => ⟨by omega, by omega⟩))⟩
                · have hb : (he != 0) = true := bne_iff_ne.mpr hge
                  have hM1 : matchR lf bs s a3 = (⟨0, 0, 0⟩, he, a3 + m + hx) := by
                    unfold matchR
                    rw [← HM.out, if_neg (fun h => h HIN.out), ← HG2.out]
                    simp only
                    rw [if_pos hge]
                  have HG1 : Hid (RT = ([], he)) := by
                    have h := HT0.out
                    rw [hM1] at h
                    have h2 := HERR.out
                    rw [h] at h2
                    exact h2 hge
                  clear hM1 hge hdom
                  go_wp2_with fail
                  go_ret2
                  rw [HG1.out]
                  exact ⟨_, rfl, World.ownsRow_nil _ _ _ _, HB8.out.trans ((L12.set (p := ⟨w8.heap.size, 2, none⟩) (fun h => absurd h.1 (Nat.lt_irrefl _)) _).below (fun b h => ⟨by omega, by omega⟩))⟩
              · rw [(got_no hin).1, (got_no hin).2.1, (got_no hin).2.2] at C4
                have C4 := Lib.hid C4
                have hM1 : matchR lf bs s a3 = (⟨0, 0, 0⟩, 1, a3) := by unfold matchR; rw [← HM.out, if_pos hin]
                have HG1 : Hid (RT = ([], 1)) := by
                  have h := HT0.out
                  rw [hM1] at h
                  have h2 := HERR.out
                  rw [h] at h2
                  exact h2 (by simp)
                clear hin hM1
                refine C4.out.mono ?_
                rintro e w10 ⟨rfl, hRd10, hk10⟩
                have z10 := hk10.size
                go_wp2_with fail
                go_ret2
                rw [HG1.out]
                exact ⟨_, rfl, World.ownsRow_nil _ _ _ _, HB8.out.trans ((L9.trans ⟨hk10.os, hk10.tape, hk10.output, hk10.size, fun b h => hk10.block b h.2⟩).below (fun b h => ⟨by omega, by omega⟩))⟩
        · have hb : (ge != 0) = true := bne_iff_ne.mpr he
          have HT : tokenR ls lf bs at_ = (⟨0, 0, 0⟩, false, ge, at_ + ga) := by
            unfold tokenR
            rw [← HGG.out]
            simp only
            rw [if_pos he]
          rw [HT] at herr
          have HG1 := Lib.hid (herr he)
          clear hend herr hlim hnext HT hdom he
          go_wp2_with fail
          refine C3.out.mono ?_
          rintro e w8 ⟨rfl, hRd8, hk8⟩
          have z8 := hk8.size
          have hK8 : Kept (fun x => x < w7.heap.size ∧ x ≠ g) w7 w8 := hkp.out.trans ⟨hk8.os, hk8.tape, hk8.output, hk8.size, fun b h => hk8.block b ⟨by have := h.1; omega, h.2⟩⟩
          have HB8 : Hid (Below w.heap.size w w8) := HB7.out.trans (hK8.below (fun b h => ⟨by omega, by omega⟩))
          have hown8 : w8.ownsRow w7.heap.size 35 3 _ k (tksL out) := own_kept hown (fun x hx => hk8.block x (by have := World.ownsRow.lt hown x hx; exact ⟨this.2, by omega⟩))
          go_wp2_with fail
          go_ret2
          rw [HG1.out]
          exact ⟨_, rfl, World.ownsRow_nil _ _ _ _, HB8.out⟩
    · have hb : (e2 != 0) = true := bne_iff_ne.mpr he2
      have HRT2 : Hid (RT = ([], e2)) := by show _ = _; rw [HRT.out, if_neg (by simp), if_pos he2]
      clear he2 HRT
      go_wp2_with fail
      go_ret2
      rw [HRT2.out]
      exact ⟨_, rfl, World.ownsRow_nil _ _ _ _, HB3.out⟩
  · have hb : (e1 != 0) = true := bne_iff_ne.mpr he1
    have HRT2 : Hid (RT = ([], e1)) := by show _ = _; rw [HRT.out, if_pos he1]
    clear he1 HRT
    go_wp2_with fail
    go_ret2
    rw [HRT2.out]
    exact ⟨_, rfl, World.ownsRow_nil _ _ _ _, HB2.out⟩
end Go.Proofs.Ytdfpcnldfibceaa.Huff
