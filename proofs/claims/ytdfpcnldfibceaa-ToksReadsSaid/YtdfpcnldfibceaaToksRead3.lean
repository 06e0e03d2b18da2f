/-
  The walk of toks.Read.
-/
import Derived.Test.YtdfpcnldfibceaaToksPlain2
namespace Go.Proofs.Ytdfpcnldfibceaa.Huff
open Go.RowKit Go.Proofs.Ytdfpcnldfibceaa.Mem Go.Proofs.Ytdfpcnldfibceaa.Canon Go.Proofs.Ytdfpcnldfibceaa.Own
open Go.Proofs.Ytdfpcnldfibceaa.Toks (Tk Pc joinT joinE pw mayB)

def tksL (ts : List Tk) : List Value := ts.flatMap fun t => [.int .u8 t.lit, .int .i64 t.len, .int .i64 t.dist]
theorem tksL_snoc (ts : List Tk) (t : Tk) : tksL (ts ++ [t]) = tksL ts ++ [.int .u8 t.lit, .int .i64 t.len, .int .i64 t.dist] := by simp [tksL]
def TRPost (R : List Tk × Int) (w : World) (e : Ending) (w' : World) : Prop :=
  ∃ v, e = .returned (.tuple #[v, .int .i64 R.2]) ∧ w'.ownsRow w.heap.size 35 3 v R.1.length (tksL R.1) ∧ Below w.heap.size w w'
theorem info_tok3 : (Try.prog.info? 35).map (fun i => (i.zero, i.size, i.bytes)) = some (some (.agg #[.int .u8 0, .int .i64 0, .int .i64 0]), 3, 24) := by kernel_rfl

set_option maxRecDepth 100000 in
theorem tread_neg (w : World) (u : Value) (lb : List Nat) (most : Int) (_h1 : -9223372036854775808 ≤ most) (hm : most < 0) :
    Calls Try.prog 78 #[u, .int .i64 most] w (TRPost (readToks lb most) w) := by
  have hR : readToks lb most = ([], 13) := by unfold readToks; rw [if_pos hm]
  rw [hR]
  go_enter Try.func78, Try.ntmps78
  go_wp2_with fail
  go_ret2
  exact ⟨_, rfl, World.ownsRow_nil _ _ _ _, Below.refl _ _⟩

theorem padE_two (bs : List Bool) (at_ : Nat) : padE bs at_ = 0 ∨ padE bs at_ = 2 := by
  unfold padE; split <;> simp
theorem toksGo_err {ls lf : List Nat} {bs : List Bool} {f at_ : Nat} {M : Int} {out : List Tk} {T : Tk × Bool × Int × Nat} (h : tokenR ls lf bs at_ = T) (he : T.2.2.1 ≠ 0) : toksGo ls lf bs (f + 1) M out at_ = ([], T.2.2.1) := by
  rw [toksGo, h, if_pos he]
theorem toksGo_end {ls lf : List Nat} {bs : List Bool} {f at_ : Nat} {M : Int} {out : List Tk} {T : Tk × Bool × Int × Nat} (h : tokenR ls lf bs at_ = T) (he : T.2.2.1 = 0) (hm : T.2.1 = false) : toksGo ls lf bs (f + 1) M out at_ = if padE bs T.2.2.2 = 0 then (out, 0) else ([], 2) := by
  rw [toksGo, h, if_neg (by rw [he]; simp), if_pos hm]
theorem toksGo_limit {ls lf : List Nat} {bs : List Bool} {f at_ : Nat} {M : Int} {out : List Tk} {T : Tk × Bool × Int × Nat} (h : tokenR ls lf bs at_ = T) (he : T.2.2.1 = 0) (hm : T.2.1 = true) (hl : M - max 1 T.1.len < 0) : toksGo ls lf bs (f + 1) M out at_ = ([], 6) := by
  rw [toksGo, h, if_neg (by rw [he]; simp), if_neg (by rw [hm]; simp), if_pos hl]
theorem toksGo_next {ls lf : List Nat} {bs : List Bool} {f at_ : Nat} {M : Int} {out : List Tk} {T : Tk × Bool × Int × Nat} (h : tokenR ls lf bs at_ = T) (he : T.2.2.1 = 0) (hm : T.2.1 = true) (hl : ¬ M - max 1 T.1.len < 0) : toksGo ls lf bs (f + 1) M out at_ = toksGo ls lf bs f (M - max 1 T.1.len) (out ++ [T.1]) T.2.2.2 := by
  rw [toksGo, h, if_neg (by rw [he]; simp), if_neg (by rw [hm]; simp), if_neg hl]

set_option maxHeartbeats 2000000 in
set_option maxRecDepth 100000 in
theorem tread_any (w : World) (A : Option Addr) (n c : Nat) (lb : List Nat) (most : Int) (hm0 : 0 ≤ most) (hm1 : most ≤ 9223372036854775807) (hn : lb.length = n) (hN : n ≤ 100000) (h8 : ∀ x ∈ lb, x ≤ 255) (hnil : A = none → n = 0 ∧ c = 0) (ha : Row w w.heap.size A n 1 (numF .u8 lb)) :
    Calls Try.prog 78 #[.slice A n c, .int .i64 most] w (TRPost (readToks lb most) w) := by
  obtain ⟨j0, hj0, hy0, hy1, hy2⟩ := info_parts info_tok3
  have C1 := Lib.hid (newreader_any w A n c lb hn hN h8 hnil ha)
  have hlb : (rbits lb).length ≤ 800000 := by rw [rbits_length, hn]; omega
  obtain ⟨RT, hRT⟩ : ∃ RT, RT = readToks lb most := ⟨_, rfl⟩
  rw [← hRT]
  unfold readToks at hRT
  rw [if_neg (by omega)] at hRT
  clear hn h8 hnil ha
  generalize rbits lb = bs at *
  have hk1 := readGo_ok (bs := bs) (n := 265) 266 [] false 0 (by simp) (by simp)
  have D1 := Lib.hid (fun wx gr g lo (h1 : lo ≤ g) h2 h3 => coder_any wx gr lo g bs 0 265 (by omega) (by omega) h1 h2 h3)
  change Hid (∀ wx gr g lo, lo ≤ g → _ → Rd wx lo g bs 0 → Calls _ _ _ _ (CodPost (readGo bs 265 266 [] false 0) lo g bs wx)) at D1
  generalize readGo bs 265 266 [] false 0 = R1 at D1 hk1 hRT
  obtain ⟨ls, e1, a1⟩ := R1
  simp only at hk1 hRT
  have hk2 := readGo_ok (bs := bs) (n := 12) 13 [] false a1 (by simp) (by simp)
  have D2 := Lib.hid (fun wx gr g lo (h1 : lo ≤ g) h2 h3 => coder_any wx gr lo g bs a1 12 (by omega) (by omega) h1 h2 h3)
  change Hid (∀ wx gr g lo, lo ≤ g → _ → Rd wx lo g bs a1 → Calls _ _ _ _ (CodPost (readGo bs 12 13 [] false a1) lo g bs wx)) at D2
  generalize readGo bs 12 13 [] false a1 = R2 at D2 hk2 hRT
  obtain ⟨lf, e2, a2⟩ := R2
  simp only at hk2 hRT
  have HRT := Lib.hid hRT
  have HK1 := Lib.hid hk1
  have HK2 := Lib.hid hk2
  clear hRT hk1 hk2
  go_enter Try.func78, Try.ntmps78
  go_wp2_with fail
  refine C1.out.mono ?_
  rintro e w1 ⟨g, rfl, hR1, hg, hb1⟩
  have z1 := hb1.size
  have hgl := hR1.lt
  go_wp2_with fail
  have hbel2 : Below w1.heap.size w1 (w1.alloc (.cells #[.pointer (some ⟨g, 0, none⟩), .pointer none, .pointer none] 180)) := bel_alloc0 (Below.refl _ _)
  have blk2 : Blk (w1.alloc (.cells #[.pointer (some ⟨g, 0, none⟩), .pointer none, .pointer none] 180)) w1.heap.size 180 #[.pointer (some ⟨g, 0, none⟩), .pointer none, .pointer none] := Blk.made _ _ _
  generalize w1.alloc (.cells #[.pointer (some ⟨g, 0, none⟩), .pointer none, .pointer none] 180) = w2 at *
  have hR2 : Rd w2 w.heap.size g bs 0 := hR1.keep (fun b _ h => hbel2.block b (by omega)) hg
  have z2 := blk2.lt
  have hbw2 : Below w.heap.size w w2 := hb1.trans (hbel2.mono z1)
  refine (D1.out w2 w1.heap.size g w.heap.size hg (blk2.cell 0) hR2).mono ?_
  rintro e w3 ⟨hpost, hR3, hk3⟩
  simp only at hpost hR3
  have z3 := hk3.size
  have blk3 : Blk w3 w1.heap.size _ _ := (hk3.block w1.heap.size ⟨by omega, by omega⟩).trans blk2
  have p0 := blk3.cell 0
  have p1 := blk3.cell 1
  have p2 := blk3.cell 2
  have f1 := blk3.frozen 1
  have f2 := blk3.frozen 2
  simp only [List.getElem?_toArray, List.getElem?_cons_zero, List.getElem?_cons_succ] at p0 p1 p2
  have HB2 := Lib.hid hbw2
  have HK3 := Lib.hid hk3
  have HBLK3 := Lib.hid blk3
  have HR3 := Lib.hid hR3
  clear hR1 hR2 hb1 hbel2 blk2 hbw2 hk3 blk3 hR3 C1 D1
  rcases hpost with ⟨he1, rfl⟩ | ⟨he1, gs, rfl, hCs⟩
  · have hb : (e1 != 0) = true := bne_iff_ne.mpr he1
    have HRT2 : Hid (RT = ([], e1)) := by show _ = _; rw [HRT.out, if_pos he1]
    clear he1 HRT
    go_wp2_with fail
    go_ret2
    rw [HRT2.out]
    exact ⟨_, rfl, World.ownsRow_nil _ _ _ _, bel_set (p := ⟨w1.heap.size, 1, none⟩) z1 (HB2.out.trans (HK3.out.below (fun b h => ⟨by omega, by omega⟩)))⟩
  · subst he1
    obtain ⟨hok1, hl1⟩ := HK1.out rfl
    have HCs := Lib.hid hCs
    have HOK1 := Lib.hid hok1
    have HL1 := Lib.hid hl1
    clear hCs hok1 hl1 HK1
    go_wp2_with fail
    have blk4 := HBLK3.out.set 1 (.pointer (some ⟨gs, 0, none⟩))
    have hk34 : Kept (fun x => x < w1.heap.size ∨ w1.heap.size < x) w3 (w3.setCell ⟨w1.heap.size, 1, none⟩ (.pointer (some ⟨gs, 0, none⟩))) := (Kept.refl _ _).set (fun h => by have h : w1.heap.size < w1.heap.size ∨ w1.heap.size < w1.heap.size := h; omega) _
    have z34 := hk34.size
    generalize w3.setCell ⟨w1.heap.size, 1, none⟩ (.pointer (some ⟨gs, 0, none⟩)) = w4 at *
    have hR4 : Rd w4 w.heap.size g bs a1 := HR3.out.keep (fun b h1 h2 => hk34.block b (by left; omega)) hg
    have HCs4 : Hid (Coder w4 w2.heap.size w3.heap.size gs ls) := HCs.out.keep (fun b h1 h2 => hk34.block b (by right; omega))
    have HB4 : Hid (Below w.heap.size w w4) := (HB2.out.trans (HK3.out.below (fun b h => ⟨by omega, by omega⟩))).trans (hk34.below (fun b h => by left; omega))
    clear p0 p1 p2 f1 f2 HBLK3 HR3 HCs HB2 HK3
    refine (D2.out w4 w1.heap.size g w.heap.size hg (blk4.cell 0) hR4).mono ?_
    rintro e w5 ⟨hpost, hR5, hk5⟩
    simp only at hpost hR5
    have z5 := hk5.size
    have blk5 : Blk w5 w1.heap.size _ _ := (hk5.block w1.heap.size ⟨by omega, by omega⟩).trans blk4
    have p0 := blk5.cell 0
    have p1 := blk5.cell 1
    have p2 := blk5.cell 2
    have f2 := blk5.frozen 2
    simp at p0 p1 p2
    have HB5 : Hid (Below w.heap.size w w5) := HB4.out.trans (hk5.below (fun b h => ⟨by omega, by omega⟩))
    have HCs5 : Hid (Coder w5 w2.heap.size w3.heap.size gs ls) := HCs4.out.kept hk5 (fun b h1 h2 => ⟨by omega, by omega⟩)
    have HBLK5 := Lib.hid blk5
    have HR5 := Lib.hid hR5
    clear hR4 hk34 blk4 hR5 blk5 hk5 HB4 HCs4 D2
    rcases hpost with ⟨he2, rfl⟩ | ⟨he2, gf, rfl, hCf⟩
    · have hb : (e2 != 0) = true := bne_iff_ne.mpr he2
      have HRT2 : Hid (RT = ([], e2)) := by show _ = _; rw [HRT.out, if_neg (by simp), if_pos he2]
      clear he2 HRT
      go_wp2_with fail
      go_ret2
      rw [HRT2.out]
      exact ⟨_, rfl, World.ownsRow_nil _ _ _ _, bel_set (p := ⟨w1.heap.size, 2, none⟩) z1 HB5.out⟩
    · subst he2
      obtain ⟨hok2, hl2⟩ := HK2.out rfl
      have HCf := Lib.hid hCf
      have HOK2 := Lib.hid hok2
      have HL2 := Lib.hid hl2
      have HRT2 : Hid (RT = toksGo ls lf bs (bs.length + 1) most [] a2) := by show _ = _; rw [HRT.out, if_neg (by simp), if_neg (by simp)]
      clear hCf hok2 hl2 HK2 HRT
      have hat0 : a2 ≤ bs.length := by
        obtain ⟨A', n', c', l', h1, h2, h3, h4, h5, h6, h7⟩ := HR5.out
        rw [h5, rbits_length, h3]; exact h6
      go_wp2_with fail
      have blk6 := HBLK5.out.set 2 (.pointer (some ⟨gf, 0, none⟩))
      have hk56 : Kept (fun x => x < w1.heap.size ∨ w1.heap.size < x) w5 (w5.setCell ⟨w1.heap.size, 2, none⟩ (.pointer (some ⟨gf, 0, none⟩))) := (Kept.refl _ _).set (fun h => by have h : w1.heap.size < w1.heap.size ∨ w1.heap.size < w1.heap.size := h; omega) _
      have z56 := hk56.size
      generalize w5.setCell ⟨w1.heap.size, 2, none⟩ (.pointer (some ⟨gf, 0, none⟩)) = w6 at *
      have HR6 : Hid (Rd w6 w.heap.size g bs a2) := HR5.out.keep (fun b h1 h2 => hk56.block b (by left; omega)) hg
      have HCs6 : Hid (Coder w6 w2.heap.size w6.heap.size gs ls) := Coder.mono (HCs5.out.keep (fun b h1 h2 => hk56.block b (by right; omega))) (Nat.le_refl _) (by omega)
      have HCf6 : Hid (Coder w6 w2.heap.size w6.heap.size gf lf) := Coder.mono (HCf.out.keep (fun b h1 h2 => hk56.block b (by right; omega))) (by omega) (by omega)
      have HB6 : Hid (Below w.heap.size w w6) := HB5.out.trans (hk56.below (fun b h => by left; omega))
      have z6 : w1.heap.size < w2.heap.size ∧ w2.heap.size ≤ w6.heap.size := by omega
      have HBLK6 := Lib.hid blk6
      clear p0 p1 p2 f2 HBLK5 HR5 HCs5 HCf HB5 hk56 blk6 z56 z34 z5 z3
      generalize w1.heap.size = gr at *
      generalize w2.heap.size = clo at *
      go_wp2_with fail
      go_loopw [1, 4] (fun m u wr => ∃ (f at_ k : Nat) (M : Int) (out : List Tk), (0 ≤ M ∧ M ≤ 9223372036854775807) ∧ m = .int .i64 M ∧ k ≤ at_ ∧ at_ ≤ bs.length ∧ Hid (out.length = k) ∧ wr.ownsRow w6.heap.size 35 3 u k (tksL out) ∧ Hid (bs.length + 1 ≤ f + at_) ∧ Hid (toksGo ls lf bs f M out at_ = RT) ∧ Hid (Rd wr w.heap.size g bs at_) ∧ Hid (Kept (fun x => x < w6.heap.size ∧ x ≠ g) w6 wr)) (fun m _ _ => (intOf m).toNat)
      case atStart => exact ⟨bs.length + 1, a2, 0, most, [], ⟨hm0, hm1⟩, rfl, by omega, hat0, rfl, World.ownsRow_nil _ _ _ _, by show _ ≤ _; omega, HRT2.out.symm, HR6.out, Kept.refl _ _⟩
      case round =>
        clear HR6 HRT2
        obtain ⟨f, at_, k, M, out, ⟨hM0, hM1⟩, rfl, hka, hat, hlen, hown, hf, hgo, hRd, hkp⟩ := hrel
        obtain ⟨f, rfl⟩ : ∃ f', f = f' + 1 := ⟨f - 1, by have := hf.out; omega⟩
        have hkz := hkp.out.size
        have blkr : Blk wr gr _ _ := (hkp.out.block gr ⟨by omega, by omega⟩).trans HBLK6.out
        have C3 := token_any wr gr w.heap.size g clo w6.heap.size gs gf ls lf bs at_ hg (blkr.cell 0) (blkr.cell 1) (blkr.cell 2) (by omega) (by omega) HOK1.out (by rw [HL1.out]; omega) (HCs6.out.kept hkp.out (fun b h1 h2 => ⟨by omega, by omega⟩)) HOK2.out (by rw [HL2.out]; omega) (HCf6.out.kept hkp.out (fun b h1 h2 => ⟨by omega, by omega⟩)) hkz (fun b h1 h2 => by omega) hRd.out
        have hmay := tokenR_may (ls := ls) (lf := lf) (by rw [HL1.out]; omega) (by rw [HL2.out]; omega) bs (at_ := at_)
        unfold TokPost at C3
        clear blkr
        have hend := fun he hm => toksGo_end (T := tokenR ls lf bs at_) (bs := bs) (f := f) (M := M) (out := out) rfl he hm
        have herr := fun he => toksGo_err (T := tokenR ls lf bs at_) (bs := bs) (f := f) (M := M) (out := out) rfl he
        have hlim := fun he hm hl => toksGo_limit (T := tokenR ls lf bs at_) (bs := bs) (f := f) (M := M) (out := out) rfl he hm hl
        have hnext := fun he hm hl => toksGo_next (T := tokenR ls lf bs at_) (bs := bs) (f := f) (M := M) (out := out) rfl he hm hl
        generalize tokenR ls lf bs at_ = T at *
        obtain ⟨⟨lit, len, dist⟩, more, te, ta⟩ := T
        simp only [Toks.Tk.val] at C3 hmay hend herr hlim hnext
        have C3 := Lib.hid C3
        by_cases he : te = 0
        · subst he
          clear herr
          obtain ⟨hmay, hadv⟩ := hmay rfl
          cases more
          · have hg1 := hend rfl rfl
            rw [hgo.out] at hg1
            have HG1 := Lib.hid hg1
            clear hend hlim hnext hg1 hgo hmay
            go_wp2_with fail
            refine C3.out.mono ?_
            rintro e w7 ⟨rfl, hRd7, hk7⟩
            have z7 := hk7.size
            have hK7 : Kept (fun x => x < w6.heap.size ∧ x ≠ g) w6 w7 := hkp.out.trans ⟨hk7.os, hk7.tape, hk7.output, hk7.size, fun b h => hk7.block b ⟨by have := h.1; omega, h.2⟩⟩
            have HB7 : Hid (Below w.heap.size w w7) := HB6.out.trans (hK7.below (fun b h => ⟨by omega, by omega⟩))
            have blk7 : Blk w7 gr _ _ := (hK7.block gr ⟨by omega, by omega⟩).trans HBLK6.out
            have hown7 : w7.ownsRow w6.heap.size 35 3 _ k (tksL out) := own_kept hown (fun x hx => hk7.block x (by have := World.ownsRow.lt hown x hx; exact ⟨this.2, by omega⟩))
            have z7r := blk7.lt
            have p0 := blk7.cell 0
            simp at p0
            go_wp2_with fail
            have HB8 : Hid (Below w.heap.size w (w7.alloc (.cells #[.int .u8 lit, .int .i64 len, .int .i64 dist] 35))) := bel_alloc (by omega) HB7.out
            have own8 := hown7.alloc (.cells #[.int .u8 lit, .int .i64 len, .int .i64 dist] 35)
            have hRd8 := hRd7.keep (w' := w7.alloc (.cells #[.int .u8 lit, .int .i64 len, .int .i64 dist] 35)) (fun b _ h => Below.heap_alloc w7 _ b (by omega)) hg
            generalize w7.alloc (.cells #[.int .u8 lit, .int .i64 len, .int .i64 dist] 35) = w8 at *
            have C4 := pad_any w8 w.heap.size g bs ta hRd8
            rcases padE_two bs ta with hp | hp
            · rw [hp] at C4
              have HG2 : Hid (RT = (out, 0)) := by show _ = _; rw [HG1.out, if_pos hp]
              have C4 := Lib.hid C4
              clear hp HG1
              refine C4.out.mono ?_
              rintro e w9 ⟨rfl, q, rfl⟩
              go_wp2_with fail
              go_ret2
              rw [HG2.out]
              refine ⟨_, rfl, ?_, below_drewN HB8.out q⟩
              show World.ownsRow _ _ _ _ _ out.length _
              rw [hlen.out]
              exact own_mono own8 (by omega)
            · rw [hp] at C4
              have HG2 : Hid (RT = ([], 2)) := by show _ = _; rw [HG1.out, if_neg (by rw [hp]; decide)]
              have C4 := Lib.hid C4
              clear hp HG1
              refine C4.out.mono ?_
              rintro e w9 ⟨rfl, q, rfl⟩
              go_wp2_with fail
              go_ret2
              rw [HG2.out]
              exact ⟨_, rfl, World.ownsRow_nil _ _ _ _, below_drewN HB8.out q⟩
          · obtain ⟨hm, ⟨hi0, hi1⟩, hl0, hl1⟩ := hmay rfl
            simp only at hm hi0 hi1 hl0 hl1
            clear hend hmay
            obtain ⟨d, hd, hd1, hd2⟩ : ∃ d : Int, d = max 1 len ∧ 1 ≤ d ∧ d ≤ 257 := ⟨_, rfl, by omega, by omega⟩
            rw [← hd] at hlim hnext
            by_cases hl : M - d < 0
            · have hg1 := hlim rfl rfl hl
              rw [hgo.out] at hg1
              have HG1 := Lib.hid hg1
              clear hlim hnext hg1 hgo
              go_wp2_with fail
              refine C3.out.mono ?_
              rintro e w7 ⟨rfl, hRd7, hk7⟩
              have z7 := hk7.size
              have hK7 : Kept (fun x => x < w6.heap.size ∧ x ≠ g) w6 w7 := hkp.out.trans ⟨hk7.os, hk7.tape, hk7.output, hk7.size, fun b h => hk7.block b ⟨by have := h.1; omega, h.2⟩⟩
              have HB7 : Hid (Below w.heap.size w w7) := HB6.out.trans (hK7.below (fun b h => ⟨by omega, by omega⟩))
              have blk7 : Blk w7 gr _ _ := (hK7.block gr ⟨by omega, by omega⟩).trans HBLK6.out
              have hown7 : w7.ownsRow w6.heap.size 35 3 _ k (tksL out) := own_kept hown (fun x hx => hk7.block x (by have := World.ownsRow.lt hown x hx; exact ⟨this.2, by omega⟩))
              go_wp2_with fail
              go_ret2
              rw [HG1.out]
              exact ⟨_, rfl, World.ownsRow_nil _ _ _ _, bel_alloc (by omega) HB7.out⟩
            · have hg1 := hnext rfl rfl hl
              rw [hgo.out] at hg1
              have HG1 := Lib.hid hg1
              clear hlim hnext hg1 hgo
              go_wp2_with fail
              refine C3.out.mono ?_
              rintro e w7 ⟨rfl, hRd7, hk7⟩
              have z7 := hk7.size
              have hK7 : Kept (fun x => x < w6.heap.size ∧ x ≠ g) w6 w7 := hkp.out.trans ⟨hk7.os, hk7.tape, hk7.output, hk7.size, fun b h => hk7.block b ⟨by have := h.1; omega, h.2⟩⟩
              have HB7 : Hid (Below w.heap.size w w7) := HB6.out.trans (hK7.below (fun b h => ⟨by omega, by omega⟩))
              have blk7 : Blk w7 gr _ _ := (hK7.block gr ⟨by omega, by omega⟩).trans HBLK6.out
              have hown7 : w7.ownsRow w6.heap.size 35 3 _ k (tksL out) := own_kept hown (fun x hx => hk7.block x (by have := World.ownsRow.lt hown x hx; exact ⟨this.2, by omega⟩))
              have hka2 : k + 1 ≤ ta := by omega
              have hat2 : ta ≤ bs.length := by
                obtain ⟨A', n', c', l', h1, h2, h3, h4, h5, h6, h7⟩ := hRd7
                rw [h5, rbits_length, h3]; exact h6
              obtain ⟨va, vc, rfl⟩ := own_shape hown7
              have HO7 := Lib.hid hown7
              have HR7 := Lib.hid hRd7
              have HK7 := Lib.hid hK7
              clear hown7 hRd7 hK7 hk7 hown hkp hRd blk7
              go_wp2_with (at_builtin; refine wpList_app rfl (.tmp 57) (.tmp 59) 43 rfl w6.heap.size 35 j0 _ 3 24 Try.underlying43 hj0 hy0 hy1 hy2 rfl (by decide) _ _ _ (by rfl) ((HO7.out.alloc _).alloc _) _ 1 1 [.int .u8 lit, .int .i64 len, .int .i64 dist] (by rfl) (Src.of_blk (g := w7.heap.size + 1) (Blk.made_at _ _ _ (by simp)) 1 1 3 rfl) (by intro u hu; simp at hu; rcases hu with rfl | rfl | rfl <;> rfl) (by unfold maxLen; omega) (by omega) (by simp; omega) ?_; intro v4 w9 hown9 hg9 hat9)
              go_roundw
              case measure => go_light; show (M - max 1 len).toNat < M.toNat; omega
              case rel =>
                go_light
                have hkK : ∀ b, (b < w6.heap.size ∧ b ≠ g) → b < ((w7.alloc (.cells #[.int .u8 lit, .int .i64 len, .int .i64 dist] 35)).alloc (.cells #[.int .u8 lit, .int .i64 len, .int .i64 dist] 35)).heap.size := by intro b h; have := h.1; simp; omega
                refine ⟨f, ta, k + 1, M - d, out ++ [⟨lit, len, dist⟩], ⟨hl, by omega⟩, by rw [hd], hka2, hat2, ?_, ?_, ?_, Lib.hid HG1.out.symm, ?_, ?_⟩
                · show (out ++ [_]).length = k + 1; rw [List.length_append, hlen.out]; rfl
                · rw [tksL_snoc]; exact hown9
                · show _ ≤ _; have := hf.out; omega
                · exact HR7.out.keep (fun b _ h2 => (hg9.block b (by simp; omega) (fun h => by have := (World.ownsRow.lt HO7.out b h.symm).1; omega)).trans ((Below.heap_alloc _ _ b (by simp; omega)).trans (Below.heap_alloc w7 _ b (by omega)))) hg
                · exact ((HK7.out.alloc (fun b h => by have := h.1; omega) _).alloc (fun b h => by have := h.1; simp; omega) _).grown hg9 hkK (fun b hb hh => by have := (World.ownsRow.lt HO7.out b hb).1; have := hh.1; omega)
        · have hb : (te != 0) = true := bne_iff_ne.mpr he
          have hg1 := herr he
          rw [hgo.out] at hg1
          have HG1 := Lib.hid hg1
          clear hend hlim hnext hg1 hgo hmay he herr
          go_wp2_with fail
          refine C3.out.mono ?_
          rintro e w7 ⟨rfl, hRd7, hk7⟩
          have z7 := hk7.size
          have hK7 : Kept (fun x => x < w6.heap.size ∧ x ≠ g) w6 w7 := hkp.out.trans ⟨hk7.os, hk7.tape, hk7.output, hk7.size, fun b h => hk7.block b ⟨by have := h.1; omega, h.2⟩⟩
          have HB7 : Hid (Below w.heap.size w w7) := HB6.out.trans (hK7.below (fun b h => ⟨by omega, by omega⟩))
          have blk7 : Blk w7 gr _ _ := (hK7.block gr ⟨by omega, by omega⟩).trans HBLK6.out
          have hown7 : w7.ownsRow w6.heap.size 35 3 _ k (tksL out) := own_kept hown (fun x hx => hk7.block x (by have := World.ownsRow.lt hown x hx; exact ⟨this.2, by omega⟩))
          go_wp2_with fail
          go_ret2
          rw [HG1.out]
          exact ⟨_, rfl, World.ownsRow_nil _ _ _ _, bel_alloc (by omega) HB7.out⟩
end Go.Proofs.Ytdfpcnldfibceaa.Huff
