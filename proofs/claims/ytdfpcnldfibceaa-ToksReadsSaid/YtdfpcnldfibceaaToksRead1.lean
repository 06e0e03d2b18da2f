/-
  The walks of toks' reader: coder, match.
-/
import Derived.Test.YtdfpcnldfibceaaCanonRead
import Derived.Test.YtdfpcnldfibceaaHuffGet2
import Derived.Test.YtdfpcnldfibceaaToksJoin
namespace Go.Proofs.Ytdfpcnldfibceaa.Huff
open Go.RowKit Go.Proofs.Ytdfpcnldfibceaa.Mem Go.Proofs.Ytdfpcnldfibceaa.Canon Go.Proofs.Ytdfpcnldfibceaa.Own
open Go.Proofs.Ytdfpcnldfibceaa.Toks (Tk Pc joinT joinE pw)

theorem own_bytes2 {w : World} {base c n : Nat} {A : Option Addr} {ls : List Nat} (ho : w.ownsRow base 5 1 (.slice A n c) ls.length (numL .u8 ls)) : ls.length = n ∧ Row w w.heap.size A n 1 (numF .u8 ls) ∧ (A = none → n = 0) := by
  have hn : ls.length = n := by
    rcases ho.2 with ⟨hv, hx⟩ | ⟨g, cap, cur, hv, _⟩
    · injection hv with _ e _
      exact hx.trans e.symm
    · injection hv with _ e _
      exact e.symm
  rw [hn] at ho
  exact ⟨hn, Row.of_own ho rfl (fun i j hi hj => by have e0 : j = 0 := (by omega); subst e0; exact numL_get (by omega)), fun h => ((own_wf ho).1 h).1⟩
theorem readGo_ok {bs : List Bool} {n : Nat} : ∀ (f : Nat) (out : List Nat) (sh : Bool) (at_ : Nat), out.length ≤ n → n + 1 ≤ f + out.length → (readGo bs n f out sh at_).2.1 = 0 → okB (readGo bs n f out sh at_).1 = true ∧ (readGo bs n f out sh at_).1.length = n
  | 0, out, sh, at_, h1, h2, _ => by omega
  | f + 1, out, sh, at_, h1, h2, h3 => by
    rw [readGo] at h3 ⊢
    split at h3
    · rename_i h
      rw [if_pos h] at ⊢
      split at h3
      · rename_i h4
        rw [if_pos h4]
        exact ⟨h4, by simp only; omega⟩
      · cases h3
    · rename_i h
      rw [if_neg h] at ⊢
      split at h3
      · cases h3
      · rename_i h5
        rw [if_neg h5]
        split at h3
        · rename_i h6
          rw [if_pos h6]
          exact readGo_ok f _ _ _ (by rw [List.length_append]; simp; omega) (by rw [List.length_append]; simp; omega) h3
        · rename_i h6
          rw [if_neg h6]
          split at h3
          · cases h3
          · rename_i h7
            rw [if_neg h7]
            split at h3
            · cases h3
            · rename_i h8
              rw [if_neg h8]
              have h9 : ¬ n - out.length ≤ accB bs (at_ + 4) 6 := fun e => h8 (.inr e)
              exact readGo_ok f _ _ _ (by rw [List.length_append, List.length_replicate]; omega) (by rw [List.length_append, List.length_replicate]; omega) h3
theorem readGo_err {bs : List Bool} {n : Nat} : ∀ (f : Nat) (out : List Nat) (sh : Bool) (at_ : Nat), 0 ≤ (readGo bs n f out sh at_).2.1 ∧ (readGo bs n f out sh at_).2.1 ≤ 7
  | 0, out, sh, at_ => by simp [readGo]
  | f + 1, out, sh, at_ => by
    rw [readGo]
    split
    · split <;> simp
    · split
      · simp
      · split
        · exact readGo_err f _ _ _
        · split
          · simp
          · split
            · simp
            · exact readGo_err f _ _ _

def CodPost (R : List Nat × Int × Nat) (lo g : Nat) (bs : List Bool) (w : World) (e : Ending) (w' : World) : Prop :=
  ((R.2.1 ≠ 0 ∧ e = .returned (.tuple #[.pointer none, .int .i64 R.2.1])) ∨ (R.2.1 = 0 ∧ ∃ gc, e = .returned (.tuple #[.pointer (some ⟨gc, 0, none⟩), .int .i64 0]) ∧ Coder w' w.heap.size w'.heap.size gc R.1)) ∧
    Rd w' lo g bs R.2.2 ∧ Kept (fun x => x < w.heap.size ∧ x ≠ g) w w'

set_option maxRecDepth 100000 in
theorem coder_any (w : World) (gr lo g : Nat) (bs : List Bool) (at0 n : Nat) (hn0 : 0 < n) (hn : n ≤ 300) (hlo : lo ≤ g) (hc0 : w.cell? ⟨gr, 0, none⟩ = some (.pointer (some ⟨g, 0, none⟩))) (hR : Rd w lo g bs at0) :
    Calls Try.prog 127 #[.pointer (some ⟨gr, 0, none⟩), .int .i64 (n : Nat)] w (CodPost (readGo bs n (n + 1) [] false at0) lo g bs w) := by
  have C1 := cread_any w lo g bs at0 n hn0 hn hlo hR
  have hok := readGo_ok (bs := bs) (n := n) (n + 1) [] false at0 (by simp) (by simp)
  unfold CRPost at C1
  generalize readGo bs n (n + 1) [] false at0 = R at *
  obtain ⟨rl, re, ra⟩ := R
  simp only at C1 hok
  have hgl := hR.lt
  have C1 := Lib.hid C1
  have HOK := Lib.hid hok
  clear hok hR
  unfold CodPost
  simp only
  by_cases he : re = 0
  · subst he
    obtain ⟨hok1, hok2⟩ := HOK.out rfl
    have HK1 := Lib.hid hok1
    have HK2 := Lib.hid hok2
    clear hok1 hok2 HOK
    go_enter Try.func127, Try.ntmps127
    go_wp2_with fail
    refine C1.out.mono ?_
    rintro e w1 ⟨v, rfl, hown, hR1, hk1⟩
    have z1 := hk1.size
    obtain ⟨A1, c1, rfl⟩ := own_shape hown
    have q1 := own_bytes2 hown
    have wf1 := own_wf hown
    have C2 := Lib.hid (new_any w1 A1 _ c1 rl rfl HK1.out (fun h => by have := wf1.1 h; exact this) q1.2.1)
    have HR1 := Lib.hid hR1
    have HKP := Lib.hid hk1
    clear q1 wf1 hown hR1 hk1 C1
    generalize rl.length = nl at *
    go_wp2_with fail
    refine C2.out.mono ?_
    rintro e w2 ⟨gc, rfl, hC, hb2⟩
    go_wp2_with fail
    go_ret2
    exact ⟨.inr ⟨trivial, gc, rfl, hC.mono z1 (Nat.le_refl _)⟩, HR1.out.keep (fun b _ h => hb2.block b (by omega)) hlo, HKP.out.trans (Kept.of_below hb2 (fun b h => by have := h.1; omega))⟩
  · have hb : (re != 0) = true := bne_iff_ne.mpr he
    have HE := Lib.hid he
    clear he HOK
    go_enter Try.func127, Try.ntmps127
    go_wp2_with fail
    refine C1.out.mono ?_
    rintro e w1 ⟨v, rfl, hown, hR1, hk1⟩
    obtain ⟨A1, c1, rfl⟩ := own_shape hown
    clear hown
    go_wp2_with fail
    go_ret2
    exact ⟨.inl ⟨HE.out, rfl⟩, hR1, hk1⟩

/-- A match: the token, the error, the place. -/
def matchR (lf : List Nat) (bs : List Bool) (v at_ : Nat) : Tk × Int × Nat :=
  if ¬ at_ + (v - 257) ≤ bs.length then (⟨0, 0, 0⟩, 1, at_) else
  let G := getR lf (head bs (at_ + (v - 257))) (there bs (at_ + (v - 257)))
  if G.2.1 ≠ 0 then (⟨0, 0, 0⟩, G.2.1, at_ + (v - 257) + G.2.2) else
  if ¬ at_ + (v - 257) + G.2.2 + G.1.toNat ≤ bs.length then (⟨0, 0, 0⟩, 1, at_ + (v - 257) + G.2.2) else
  (joinT ⟨v, (accB bs at_ (v - 257) : Nat), G.1, (accB bs (at_ + (v - 257) + G.2.2) G.1.toNat : Nat)⟩, joinE ⟨v, (accB bs at_ (v - 257) : Nat), G.1, (accB bs (at_ + (v - 257) + G.2.2) G.1.toNat : Nat)⟩, at_ + (v - 257) + G.2.2 + G.1.toNat)
theorem getR_dom (ls : List Nat) (X th : Nat) : (getR ls X th).2.1 = 0 → ∃ s : Nat, (getR ls X th).1 = s ∧ s < ls.length := by
  intro h
  unfold getR at h ⊢
  cases hf : (List.range ls.length).find? (hit ls X th) with
  | some s =>
    have := List.mem_of_find?_eq_some hf
    exact ⟨s, rfl, List.mem_range.1 this⟩
  | none =>
    rw [hf] at h
    simp only at h
    split at h <;> cases h
theorem info_token : (Try.prog.info? 35).map (·.size) = some 3 := by kernel_rfl
def MatchPost (R : Tk × Int × Nat) (lo g : Nat) (bs : List Bool) (w : World) (e : Ending) (w' : World) : Prop :=
  e = .returned (.tuple #[R.1.val, .int .i64 R.2.1]) ∧ Rd w' lo g bs R.2.2 ∧ Kept (fun x => x < w.heap.size ∧ x ≠ g) w w'

set_option maxHeartbeats 1000000 in
set_option maxRecDepth 100000 in
theorem match_any (w : World) (gr lo g clo cB gf : Nat) (lf : List Nat) (bs : List Bool) (v at_ : Nat) (hv1 : 257 ≤ v) (hv2 : v ≤ 264) (hlo : lo ≤ g) (hc0 : w.cell? ⟨gr, 0, none⟩ = some (.pointer (some ⟨g, 0, none⟩))) (hc2 : w.cell? ⟨gr, 2, none⟩ = some (.pointer (some ⟨gf, 0, none⟩))) (hgr : gr < w.heap.size) (hne : gr ≠ g)
    (hok : okB lf = true) (hlf : lf.length ≤ 12) (hC : Coder w clo cB gf lf) (hcB : cB ≤ w.heap.size) (hcg : ∀ b, clo ≤ b → b < cB → b ≠ g) (hR : Rd w lo g bs at_) :
    Calls Try.prog 160 #[.pointer (some ⟨gr, 0, none⟩), .int .i64 (v : Nat)] w (MatchPost (matchR lf bs v at_) lo g bs w) := by
  have hgl := hR.lt
  have HR := Lib.hid hR
  have HC := Lib.hid hC
  have HOK := Lib.hid hok
  have HCG := Lib.hid hcg
  obtain ⟨m, hm⟩ : ∃ m, m = v - 257 := ⟨_, rfl⟩
  have hmv : (v : Int) - 257 = (m : Int) := by omega
  have s1 : IntKind.i64.wrap ((v : Int) - 257) = (m : Int) := by rw [IntWalk.i64_in _ (by omega), hmv]
  have hm8 : m ≤ 7 := by omega
  have HM := Lib.hid hm
  have HMV := Lib.hid hmv
  clear hR hC hok hm hmv hcg
  go_enter Try.func160, Try.ntmps160
  go_wp2_with fail
  have hbel0 : Below w.heap.size w (w.alloc (.cells #[.int .u8 0, .int .i64 0, .int .i64 0] 35)) := bel_alloc0 (Below.refl _ _)
  have blk0 : Blk (w.alloc (.cells #[.int .u8 0, .int .i64 0, .int .i64 0] 35)) w.heap.size 35 #[.int .u8 0, .int .i64 0, .int .i64 0] := Blk.made _ _ _
  generalize w.alloc (.cells #[.int .u8 0, .int .i64 0, .int .i64 0] 35) = w0 at *
  have HR0 : Hid (Rd w0 lo g bs at_) := HR.out.keep (fun b _ h => hbel0.block b (by omega)) hlo
  have C1 := bget_any w0 lo g bs at_ m (by omega) HR0.out
  by_cases hin : at_ + m ≤ bs.length
  · rw [(got_ok hin).1, (got_ok hin).2.1, (got_ok hin).2.2] at C1
    have C1 := Lib.hid C1
    have HIN := Lib.hid hin
    have hxl := accB_lt bs at_ m
    have hx8 : accB bs at_ m < 256 := Nat.lt_of_lt_of_le hxl (by have : 2 ^ m ≤ 2 ^ 8 := Nat.pow_le_pow_right (by omega) (by omega); omega)
    obtain ⟨x, hx⟩ : ∃ x, x = accB bs at_ m := ⟨_, rfl⟩
    rw [← hx] at C1 hx8
    have HX := Lib.hid hx
    clear hx hxl hin
    refine C1.out.mono ?_
    rintro e w1 ⟨rfl, hR1, hk1⟩
    have hK1 : Kept (fun x => x < w.heap.size ∧ x ≠ g) w w1 := (Kept.of_below hbel0 (fun _ h => h.1)).trans ⟨hk1.os, hk1.tape, hk1.output, hk1.size, fun b h => hk1.block b h.2⟩
    have blk1 : Blk w1 w.heap.size _ _ := (hk1.block w.heap.size (by show w.heap.size ≠ g; omega)).trans blk0
    have d0 : w1.cell? ⟨gr, 0, none⟩ = some (.pointer (some ⟨g, 0, none⟩)) := (World.cell?_of_block (a := ⟨gr, 0, none⟩) (hK1.block gr ⟨hgr, hne⟩)).trans hc0
    have d2 : w1.cell? ⟨gr, 2, none⟩ = some (.pointer (some ⟨gf, 0, none⟩)) := (World.cell?_of_block (a := ⟨gr, 2, none⟩) (hK1.block gr ⟨hgr, hne⟩)).trans hc2
    have hC1 : Coder w1 clo cB gf lf := HC.out.keep (fun b h1 h2 => hK1.block b ⟨by omega, HCG.out b h1 h2⟩)
    have C2 := get_any w1.drew clo cB gf lo g lf bs (at_ + m) HOK.out hC1.drew hR1.drew
    unfold GetPost at C2
    have hdom := getR_dom lf (head bs (at_ + m)) (there bs (at_ + m))
    obtain ⟨G, hG⟩ : ∃ G, G = getR lf (head bs (at_ + m)) (there bs (at_ + m)) := ⟨_, rfl⟩
    rw [← hG] at C2 hdom
    obtain ⟨gv, ge, ga⟩ := G
    simp only at C2 hdom
    have C2 := Lib.hid C2
    have HGG := Lib.hid hG
    have HBLK := Lib.hid blk1
    have HK1 := Lib.hid hK1
    have HDOM := Lib.hid hdom
    clear hG hC1 hR1 hk1 hK1 blk1 blk0 hdom C1 HR0 hbel0 HR HC
    go_upto_region 4 with fail
    go_region_held3 (fun wx => wx.cell? ⟨gr, 0, none⟩ = some (.pointer (some ⟨g, 0, none⟩)) ∧ wx.cell? ⟨gr, 2, none⟩ = some (.pointer (some ⟨gf, 0, none⟩))) (first | exact ⟨d0, d2⟩ | exact ⟨k0, k2⟩) (first | (go_at_call 57; (with_reducible refine C2.out.mono ?_); rintro e w2 ⟨rfl, hR2, hk2⟩; have k0 : w2.cell? ⟨gr, 0, none⟩ = some (.pointer (some ⟨g, 0, none⟩)) := (World.cell?_of_block (a := ⟨gr, 0, none⟩) (hk2.block gr hne)).trans d0; have k2 : w2.cell? ⟨gr, 2, none⟩ = some (.pointer (some ⟨gf, 0, none⟩)) := (World.cell?_of_block (a := ⟨gr, 2, none⟩) (hk2.block gr hne)).trans d2))
    have hK2 : Kept (fun x => x < w.heap.size ∧ x ≠ g) w w2 := HK1.out.trans ((Kept.refl _ w1).drew.trans ⟨hk2.os, hk2.tape, hk2.output, hk2.size, fun b h => hk2.block b h.2⟩)
    have blk2 : Blk w2 w.heap.size _ _ := (hk2.block w.heap.size (by show w.heap.size ≠ g; omega)).trans HBLK.out.drew
    have HR2 := Lib.hid hR2
    have HK2 := Lib.hid hK2
    have HBLK2 := Lib.hid blk2
    clear hR2 hk2 hK2 blk2 HBLK HK1 C2 d0 d2
    by_cases he : ge = 0
    · subst he
      obtain ⟨s, rfl, hs⟩ := HDOM.out rfl
      have hs11 : s ≤ 11 := by omega
      have C3 := bget_any w2 lo g bs (at_ + m + ga) s (by omega) HR2.out
      by_cases hin2 : at_ + m + ga + s ≤ bs.length
      · rw [(got_ok hin2).1, (got_ok hin2).2.1, (got_ok hin2).2.2] at C3
        have hyl := accB_lt bs (at_ + m + ga) s
        have hy8 : accB bs (at_ + m + ga) s < 4096 := Nat.lt_of_lt_of_le hyl (by have : 2 ^ s ≤ 2 ^ 11 := Nat.pow_le_pow_right (by omega) hs11; omega)
        have HG : Hid (matchR lf bs v at_ = (joinT ⟨v, (x : Nat), (s : Nat), (accB bs (at_ + m + ga) s : Nat)⟩, joinE ⟨v, (x : Nat), (s : Nat), (accB bs (at_ + m + ga) s : Nat)⟩, at_ + m + ga + s)) := by
          show _ = _
          unfold matchR
          rw [← HM.out, if_neg (fun h => h HIN.out), ← HGG.out]
          simp only [ne_eq, not_true_eq_false, if_false, Int.toNat_natCast]
          rw [if_neg (fun h => h hin2), HX.out]
        generalize accB bs (at_ + m + ga) s = y at *
        have C3 := Lib.hid C3
        have C4 := Lib.hid (fun wx => Toks.toks_join ⟨(v : Int), (x : Int), (s : Int), (y : Int)⟩ wx (by simp only; omega) (by simp only; omega))
        generalize joinT ⟨(v : Int), (x : Int), (s : Int), (y : Int)⟩ = T at *
        generalize joinE ⟨(v : Int), (x : Int), (s : Int), (y : Int)⟩ = E at *
        obtain ⟨ta, tb, tc⟩ := T
        unfold Toks.Tk.val Toks.Pc.val at C4
        simp only at C4
        clear hyl hin2
        go_wp2_with fail
        refine C3.out.mono ?_
        rintro e w3 ⟨rfl, hR3, hk3⟩
        have HR3 := Lib.hid hR3
        have HK3 : Hid (Kept (fun x => x < w.heap.size ∧ x ≠ g) w w3) := HK2.out.trans ⟨hk3.os, hk3.tape, hk3.output, hk3.size, fun b h => hk3.block b h.2⟩
        have HBLK3 : Hid (Blk w3 w.heap.size 35 #[.int .u8 0, .int .i64 0, .int .i64 0]) := (hk3.block w.heap.size (by show w.heap.size ≠ g; omega)).trans HBLK2.out
        have hz3 := HK3.out.size
        have hg3 := HBLK3.out.lt
        clear hR3 hk3 C3 HR2 HK2 HBLK2
        go_wp2_with fail
        refine (C4.out _).mono ?_
        rintro e w4 ⟨rfl, hb4⟩
        have HR4 : Hid (Rd w4 lo g bs (at_ + m + ga + s)) := HR3.out.keep (fun b _ h => hb4.block b (by omega)) hlo
        have HK4 : Hid (Kept (fun x => x < w.heap.size ∧ x ≠ g) w w4) := HK3.out.trans (Kept.of_below hb4 (fun b h => by have := h.1; omega))
        have HBLK4 : Hid (Blk w4 w.heap.size 35 #[.int .u8 0, .int .i64 0, .int .i64 0]) := HBLK3.out.step hb4
        have a4 := HBLK4.out.cell 0
        have b4 := HBLK4.out.cell 1
        have c4 := HBLK4.out.cell 2
        have fa4 := HBLK4.out.frozen 0
        have fb4 := HBLK4.out.frozen 1
        have fc4 := HBLK4.out.frozen 2
        simp only [List.getElem?_toArray, List.getElem?_cons_zero, List.getElem?_cons_succ] at a4 b4 c4
        clear hb4 C4 HR3 HK3 HBLK3
        go_wp2_with fail
        exact bodyPost_ret (Canon.results_cell_tmp rfl _ _ w.heap.size _ #[.int .u8 ta, .int .i64 tb, .int .i64 tc] _ (.int .i64 E) rfl rfl (((HBLK4.out.set 0 (.int .u8 ta)).set 1 (.int .i64 tb)).set 2 (.int .i64 tc)) Try.underlying35 rfl info_token) rfl ⟨by rw [HG.out]; rfl, by rw [HG.out]; exact HR4.out.keep (fun b _ h => ((Below.heap_setCell _ _ _ b (by show b ≠ w.heap.size; omega)).trans (Below.heap_setCell _ _ _ b (by show b ≠ w.heap.size; omega))).trans (Below.heap_setCell _ _ _ b (by show b ≠ w.heap.size; omega))) hlo, Kept.set (p := ⟨w.heap.size, 2, none⟩) (Kept.set (p := ⟨w.heap.size, 1, none⟩) (Kept.set (p := ⟨w.heap.size, 0, none⟩) HK4.out (fun h => absurd h.1 (Nat.lt_irrefl _)) _) (fun h => absurd h.1 (Nat.lt_irrefl _)) _) (fun h => absurd h.1 (Nat.lt_irrefl _)) _⟩
      · rw [(got_no hin2).1, (got_no hin2).2.1, (got_no hin2).2.2] at C3
        have C3 := Lib.hid C3
        have HG : Hid (matchR lf bs v at_ = (⟨0, 0, 0⟩, 1, at_ + m + ga)) := by
          show _ = _
          unfold matchR
          rw [← HM.out, if_neg (fun h => h HIN.out), ← HGG.out]
          simp only [ne_eq, not_true_eq_false, if_false, Int.toNat_natCast]
          rw [if_pos hin2]
        clear hin2
        go_wp2_with fail
        refine C3.out.mono ?_
        rintro e w3 ⟨rfl, hR3, hk3⟩
        have HR3 := Lib.hid hR3
        have HK3 : Hid (Kept (fun x => x < w.heap.size ∧ x ≠ g) w w3) := HK2.out.trans ⟨hk3.os, hk3.tape, hk3.output, hk3.size, fun b h => hk3.block b h.2⟩
        have HBLK3 : Hid (Blk w3 w.heap.size 35 #[.int .u8 0, .int .i64 0, .int .i64 0]) := (hk3.block w.heap.size (by show w.heap.size ≠ g; omega)).trans HBLK2.out
        have a3 := HBLK3.out.cell 0
        have b3 := HBLK3.out.cell 1
        have c3 := HBLK3.out.cell 2
        have fa3 := HBLK3.out.frozen 0
        have fb3 := HBLK3.out.frozen 1
        have fc3 := HBLK3.out.frozen 2
        simp only [List.getElem?_toArray, List.getElem?_cons_zero, List.getElem?_cons_succ] at a3 b3 c3
        clear hR3 hk3 C3 HR2 HK2 HBLK2
        go_wp2_with fail
        exact bodyPost_ret (Canon.results_cell_tmp rfl _ _ w.heap.size _ #[.int .u8 0, .int .i64 0, .int .i64 0] _ (.int .i64 1) rfl rfl (((HBLK3.out.set 0 (.int .u8 0)).set 1 (.int .i64 0)).set 2 (.int .i64 0)) Try.underlying35 rfl info_token) rfl ⟨by rw [HG.out]; rfl, by rw [HG.out]; exact HR3.out.keep (fun b _ h => ((Below.heap_setCell _ _ _ b (by show b ≠ w.heap.size; omega)).trans (Below.heap_setCell _ _ _ b (by show b ≠ w.heap.size; omega))).trans (Below.heap_setCell _ _ _ b (by show b ≠ w.heap.size; omega))) hlo, Kept.set (p := ⟨w.heap.size, 2, none⟩) (Kept.set (p := ⟨w.heap.size, 1, none⟩) (Kept.set (p := ⟨w.heap.size, 0, none⟩) HK3.out (fun h => absurd h.1 (Nat.lt_irrefl _)) _) (fun h => absurd h.1 (Nat.lt_irrefl _)) _) (fun h => absurd h.1 (Nat.lt_irrefl _)) _⟩
    · have hb : (ge != 0) = true := bne_iff_ne.mpr he
      have HG : Hid (matchR lf bs v at_ = (⟨0, 0, 0⟩, ge, at_ + m + ga)) := by
        show _ = _
        unfold matchR
        rw [← HM.out, if_neg (fun h => h HIN.out), ← HGG.out]
        simp only
        rw [if_pos he]
      clear he HDOM
      have a2 := HBLK2.out.cell 0
      have b2 := HBLK2.out.cell 1
      have c2 := HBLK2.out.cell 2
      have fa2 := HBLK2.out.frozen 0
      have fb2 := HBLK2.out.frozen 1
      have fc2 := HBLK2.out.frozen 2
      simp only [List.getElem?_toArray, List.getElem?_cons_zero, List.getElem?_cons_succ] at a2 b2 c2
      go_wp2_with fail
      exact bodyPost_ret (Canon.results_cell_tmp rfl _ _ w.heap.size _ #[.int .u8 0, .int .i64 0, .int .i64 0] _ (.int .i64 ge) rfl rfl (((HBLK2.out.set 0 (.int .u8 0)).set 1 (.int .i64 0)).set 2 (.int .i64 0)) Try.underlying35 rfl info_token) rfl ⟨by rw [HG.out]; rfl, by rw [HG.out]; exact HR2.out.keep (fun b _ h => ((Below.heap_setCell _ _ _ b (by show b ≠ w.heap.size; omega)).trans (Below.heap_setCell _ _ _ b (by show b ≠ w.heap.size; omega))).trans (Below.heap_setCell _ _ _ b (by show b ≠ w.heap.size; omega))) hlo, Kept.set (p := ⟨w.heap.size, 2, none⟩) (Kept.set (p := ⟨w.heap.size, 1, none⟩) (Kept.set (p := ⟨w.heap.size, 0, none⟩) HK2.out (fun h => absurd h.1 (Nat.lt_irrefl _)) _) (fun h => absurd h.1 (Nat.lt_irrefl _)) _) (fun h => absurd h.1 (Nat.lt_irrefl _)) _⟩
  · rw [(got_no hin).1, (got_no hin).2.1, (got_no hin).2.2] at C1
    have C1 := Lib.hid C1
    have HG : Hid (matchR lf bs v at_ = (⟨0, 0, 0⟩, 1, at_)) := by show _ = _; unfold matchR; rw [← HM.out, if_pos hin]
    clear hin
    refine C1.out.mono ?_
    rintro e w1 ⟨rfl, hR1, hk1⟩
    have hK1 : Kept (fun x => x < w.heap.size ∧ x ≠ g) w w1 := (Kept.of_below hbel0 (fun _ h => h.1)).trans ⟨hk1.os, hk1.tape, hk1.output, hk1.size, fun b h => hk1.block b h.2⟩
    have blk1 : Blk w1 w.heap.size _ _ := (hk1.block w.heap.size (by show w.heap.size ≠ g; omega)).trans blk0
    have a1 := blk1.cell 0
    have b1 := blk1.cell 1
    have c1 := blk1.cell 2
    have fa1 := blk1.frozen 0
    have fb1 := blk1.frozen 1
    have fc1 := blk1.frozen 2
    simp only [List.getElem?_toArray, List.getElem?_cons_zero, List.getElem?_cons_succ] at a1 b1 c1
    have HR1 := Lib.hid hR1
    have HK1 := Lib.hid hK1
    have HBLK := Lib.hid blk1
    clear hR1 hk1 hK1 blk1 blk0 C1 HR0 hbel0 HR HC
    go_wp2_with fail
    exact bodyPost_ret (Canon.results_cell_tmp rfl _ _ w.heap.size _ #[.int .u8 0, .int .i64 0, .int .i64 0] _ (.int .i64 1) rfl rfl (((HBLK.out.set 0 (.int .u8 0)).set 1 (.int .i64 0)).set 2 (.int .i64 0)) Try.underlying35 rfl info_token) rfl ⟨by rw [HG.out]; rfl, by rw [HG.out]; exact HR1.out.keep (fun b _ h => ((Below.heap_setCell _ _ _ b (by show b ≠ w.heap.size; omega)).trans (Below.heap_setCell _ _ _ b (by show b ≠ w.heap.size; omega))).trans (Below.heap_setCell _ _ _ b (by show b ≠ w.heap.size; omega))) hlo, Kept.set (p := ⟨w.heap.size, 2, none⟩) (Kept.set (p := ⟨w.heap.size, 1, none⟩) (Kept.set (p := ⟨w.heap.size, 0, none⟩) HK1.out (fun h => absurd h.1 (Nat.lt_irrefl _)) _) (fun h => absurd h.1 (Nat.lt_irrefl _)) _) (fun h => absurd h.1 (Nat.lt_irrefl _)) _⟩
end Go.Proofs.Ytdfpcnldfibceaa.Huff
