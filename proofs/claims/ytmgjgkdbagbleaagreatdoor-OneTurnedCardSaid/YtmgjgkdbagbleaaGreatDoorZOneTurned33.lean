/-
  The walks of toks' reader: coder, match. The walk of toks' reader.token. Tokens that are read: each may be; the plain part. The walk of toks.Read.
-/
import Derived.Test.YtmgjgkdbagbleaaGreatDoorZOneTurned31
import Derived.Test.YtmgjgkdbagbleaaGreatDoorZOneTurned22
import Derived.Test.YtmgjgkdbagbleaaGreatDoorZOneTurned32
import Derived.Test.YtmgjgkdbagbleaaGreatDoorZOneTurned19
namespace Go.Proofs.YtmgjgkdbagbleaaGreatDoor.Huff
open Go.RowKit Go.Proofs.YtmgjgkdbagbleaaGreatDoor.Mem Go.Proofs.YtmgjgkdbagbleaaGreatDoor.Canon Go.Proofs.YtmgjgkdbagbleaaGreatDoor.Own
open Go.Proofs.YtmgjgkdbagbleaaGreatDoor.Toks (Tk Pc joinT joinE pw)
theorem own_bytes2 {w : World} {base c n : Nat} {A : Option Addr} {ls : List Nat} (ho : w.ownsRow base 5 1 (.slice A n c) ls.length (numL .u8 ls)) : ls.length = n ∧ Row w w.heap.size A n 1 (numF .u8 ls) ∧ (A = none → n = 0) := by
  have hn : ls.length = n := by
    rcases ho.2 with ⟨hv, hx⟩ | ⟨g, cap, cur, hv, _⟩
    · injection hv with _ e _
      exact hx.trans e.symm
    · injection hv with _ e _
      exact e.symm
  rw [hn] at ho
  exact ⟨hn, Row.of_own ho rfl (fun i j hi hj => by have e0 : j = 0 := (by omega); subst e0; exact numL_get (by omega)), fun h => ((own_wf ho).1 h).1⟩
theorem readGo_ok {bs : List Bool} {n : Nat} : ∀ (f : Nat) (out : List Nat) (sh : Bool) (at_ : Nat), out.length ≤ n → n + 1 ≤ f + out.length → (readGo bs n f out sh at_).2.1 = 0 → okB (readGo bs n f out sh at_).1 = true ∧ (readGo bs n f out sh at_).1.length = n
  | 0, out, sh, at_, h1, h2, _ => by omega
  | f + 1, out, sh, at_, h1, h2, h3 => by
    rw [readGo] at h3 ⊢
    split at h3
    · rename_i h
      rw [if_pos h] at ⊢
      split at h3
      · rename_i h4
        rw [if_pos h4]
        exact ⟨h4, by simp only; omega⟩
      · cases h3
    · rename_i h
      rw [if_neg h] at ⊢
      split at h3
      · cases h3
      · rename_i h5
        rw [if_neg h5]
        split at h3
        · rename_i h6
          rw [if_pos h6]
          exact readGo_ok f _ _ _ (by rw [List.length_append]; simp; omega) (by rw [List.length_append]; simp; omega) h3
        · rename_i h6
          rw [if_neg h6]
          split at h3
          · cases h3
          · rename_i h7
            rw [if_neg h7]
            split at h3
            · cases h3
            · rename_i h8
              rw [if_neg h8]
              have h9 : ¬ n - out.length ≤ accB bs (at_ + 4) 6 := fun e => h8 (.inr e)
              exact readGo_ok f _ _ _ (by rw [List.length_append, List.length_replicate]; omega) (by rw [List.length_append, List.length_replicate]; omega) h3
def CodPost (R : List Nat × Int × Nat) (lo g : Nat) (bs : List Bool) (w : World) (e : Ending) (w' : World) : Prop :=
  ((R.2.1 ≠ 0 ∧ e = .returned (.tuple #[.pointer none, .int .i64 R.2.1])) ∨ (R.2.1 = 0 ∧ ∃ gc, e = .returned (.tuple #[.pointer (some ⟨gc, 0, none⟩), .int .i64 0]) ∧ Coder w' w.heap.size w'.heap.size gc R.1)) ∧
    Rd w' lo g bs R.2.2 ∧ Kept (fun x => x < w.heap.size ∧ x ≠ g) w w'
set_option maxRecDepth 100000 in
theorem coder_any (w : World) (gr lo g : Nat) (bs : List Bool) (at0 n : Nat) (hn0 : 0 < n) (hn : n ≤ 300) (hlo : lo ≤ g) (hc0 : w.cell? ⟨gr, 0, none⟩ = some (.pointer (some ⟨g, 0, none⟩))) (hR : Rd w lo g bs at0) :
    Calls Tryz.prog 318 #[.pointer (some ⟨gr, 0, none⟩), .int .i64 (n : Nat)] w (CodPost (readGo bs n (n + 1) [] false at0) lo g bs w) := by
  have C1 := cread_any w lo g bs at0 n hn0 hn hlo hR
  have hok := readGo_ok (bs := bs) (n := n) (n + 1) [] false at0 (by simp) (by simp)
  unfold CRPost at C1
  generalize readGo bs n (n + 1) [] false at0 = R at *
  obtain ⟨rl, re, ra⟩ := R
  simp only at C1 hok
  have hgl := hR.lt
  have C1 := Lib.hid C1
  have HOK := Lib.hid hok
  clear hok hR
  unfold CodPost
  simp only
  by_cases he : re = 0
  · subst he
    obtain ⟨hok1, hok2⟩ := HOK.out rfl
    have HK1 := Lib.hid hok1
    have HK2 := Lib.hid hok2
    clear hok1 hok2 HOK
    go_enter Tryz.func318, Tryz.ntmps318
    go_wp2_with fail
    refine C1.out.mono ?_
    rintro e w1 ⟨v, rfl, hown, hR1, hk1⟩
    have z1 := hk1.size
    obtain ⟨A1, c1, rfl⟩ := own_shape hown
    have q1 := own_bytes2 hown
    have wf1 := own_wf hown
    have C2 := Lib.hid (new_any w1 A1 _ c1 rl rfl HK1.out (fun h => by have := wf1.1 h; exact this) q1.2.1)
    have HR1 := Lib.hid hR1
    have HKP := Lib.hid hk1
    clear q1 wf1 hown hR1 hk1 C1
    generalize rl.length = nl at *
    go_wp2_with fail
    refine C2.out.mono ?_
    rintro e w2 ⟨gc, rfl, hC, hb2⟩
    go_wp2_with fail
    go_ret2
    exact ⟨.inr ⟨trivial, gc, rfl, hC.mono z1 (Nat.le_refl _)⟩, HR1.out.keep (fun b _ h => hb2.block b (by omega)) hlo, HKP.out.trans (Kept.of_below hb2 (fun b h => by have := h.1; omega))⟩
  · have hb : (re != 0) = true := bne_iff_ne.mpr he
    have HE := Lib.hid he
    clear he HOK
    go_enter Tryz.func318, Tryz.ntmps318
    go_wp2_with fail
    refine C1.out.mono ?_
    rintro e w1 ⟨v, rfl, hown, hR1, hk1⟩
    obtain ⟨A1, c1, rfl⟩ := own_shape hown
    clear hown
    go_wp2_with fail
    go_ret2
    exact ⟨.inl ⟨HE.out, rfl⟩, hR1, hk1⟩
def matchR (lf : List Nat) (bs : List Bool) (v at_ : Nat) : Tk × Int × Nat :=
  if ¬ at_ + (v - 257) ≤ bs.length then (⟨0, 0, 0⟩, 1, at_) else
  let G := getR lf (head bs (at_ + (v - 257))) (there bs (at_ + (v - 257)))
  if G.2.1 ≠ 0 then (⟨0, 0, 0⟩, G.2.1, at_ + (v - 257) + G.2.2) else
  if ¬ at_ + (v - 257) + G.2.2 + G.1.toNat ≤ bs.length then (⟨0, 0, 0⟩, 1, at_ + (v - 257) + G.2.2) else
  (joinT ⟨v, (accB bs at_ (v - 257) : Nat), G.1, (accB bs (at_ + (v - 257) + G.2.2) G.1.toNat : Nat)⟩, joinE ⟨v, (accB bs at_ (v - 257) : Nat), G.1, (accB bs (at_ + (v - 257) + G.2.2) G.1.toNat : Nat)⟩, at_ + (v - 257) + G.2.2 + G.1.toNat)
theorem getR_dom (ls : List Nat) (X th : Nat) : (getR ls X th).2.1 = 0 → ∃ s : Nat, (getR ls X th).1 = s ∧ s < ls.length := by
  intro h
  unfold getR at h ⊢
  cases hf : (List.range ls.length).find? (hit ls X th) with
  | some s =>
    have := List.mem_of_find?_eq_some hf
    exact ⟨s, rfl, List.mem_range.1 this⟩
  | none =>
    rw [hf] at h
    simp only at h
    split at h <;> cases h
theorem info_token : (Tryz.prog.info? 235).map (·.size) = some 3 := by kernel_rfl
def MatchPost (R : Tk × Int × Nat) (lo g : Nat) (bs : List Bool) (w : World) (e : Ending) (w' : World) : Prop :=
  e = .returned (.tuple #[R.1.val, .int .i64 R.2.1]) ∧ Rd w' lo g bs R.2.2 ∧ Kept (fun x => x < w.heap.size ∧ x ≠ g) w w'
set_option maxHeartbeats 1000000 in
set_option maxRecDepth 100000 in
theorem match_any (w : World) (gr lo g clo cB gf : Nat) (lf : List Nat) (bs : List Bool) (v at_ : Nat) (hv1 : 257 ≤ v) (hv2 : v ≤ 264) (hlo : lo ≤ g) (hc0 : w.cell? ⟨gr, 0, none⟩ = some (.pointer (some ⟨g, 0, none⟩))) (hc2 : w.cell? ⟨gr, 2, none⟩ = some (.pointer (some ⟨gf, 0, none⟩))) (hgr : gr < w.heap.size) (hne : gr ≠ g)
    (hok : okB lf = true) (hlf : lf.length ≤ 12) (hC : Coder w clo cB gf lf) (hcB : cB ≤ w.heap.size) (hcg : ∀ b, clo ≤ b → b < cB → b ≠ g) (hR : Rd w lo g bs at_) :
    Calls Tryz.prog 333 #[.pointer (some ⟨gr, 0, none⟩), .int .i64 (v : Nat)] w (MatchPost (matchR lf bs v at_) lo g bs w) := by
  have hgl := hR.lt
  have HR := Lib.hid hR
  have HC := Lib.hid hC
  have HOK := Lib.hid hok
  have HCG := Lib.hid hcg
  obtain ⟨m, hm⟩ : ∃ m, m = v - 257 := ⟨_, rfl⟩
  have hmv : (v : Int) - 257 = (m : Int) := by omega
  have s1 : IntKind.i64.wrap ((v : Int) - 257) = (m : Int) := by rw [IntWalk.i64_in _ (by omega), hmv]
  have hm8 : m ≤ 7 := by omega
  have HM := Lib.hid hm
  have HMV := Lib.hid hmv
  clear hR hC hok hm hmv hcg
  go_enter Tryz.func333, Tryz.ntmps333
  go_wp2_with fail
  have hbel0 : Below w.heap.size w (w.alloc (.cells #[.int .u8 0, .int .i64 0, .int .i64 0] 235)) := bel_alloc0 (Below.refl _ _)
  have blk0 : Blk (w.alloc (.cells #[.int .u8 0, .int .i64 0, .int .i64 0] 235)) w.heap.size 235 #[.int .u8 0, .int .i64 0, .int .i64 0] := Blk.made _ _ _
  generalize w.alloc (.cells #[.int .u8 0, .int .i64 0, .int .i64 0] 235) = w0 at *
  have HR0 : Hid (Rd w0 lo g bs at_) := HR.out.keep (fun b _ h => hbel0.block b (by omega)) hlo
  have C1 := bget_any w0 lo g bs at_ m (by omega) HR0.out
  by_cases hin : at_ + m ≤ bs.length
  · rw [(got_ok hin).1, (got_ok hin).2.1, (got_ok hin).2.2] at C1
    have C1 := Lib.hid C1
    have HIN := Lib.hid hin
    have hxl := accB_lt bs at_ m
    have hx8 : accB bs at_ m < 256 := Nat.lt_of_lt_of_le hxl (by have : 2 ^ m ≤ 2 ^ 8 := Nat.pow_le_pow_right (by omega) (by omega); omega)
    obtain ⟨x, hx⟩ : ∃ x, x = accB bs at_ m := ⟨_, rfl⟩
    rw [← hx] at C1 hx8
    have HX := Lib.hid hx
    clear hx hxl hin
    refine C1.out.mono ?_
    rintro e w1 ⟨rfl, hR1, hk1⟩
    have hK1 : Kept (fun x => x < w.heap.size ∧ x ≠ g) w w1 := (Kept.of_below hbel0 (fun _ h => h.1)).trans ⟨hk1.os, hk1.tape, hk1.output, hk1.size, fun b h => hk1.block b h.2⟩
    have blk1 : Blk w1 w.heap.size _ _ := (hk1.block w.heap.size (by show w.heap.size ≠ g; omega)).trans blk0
    have d0 : w1.cell? ⟨gr, 0, none⟩ = some (.pointer (some ⟨g, 0, none⟩)) := (World.cell?_of_block (a := ⟨gr, 0, none⟩) (hK1.block gr ⟨hgr, hne⟩)).trans hc0
    have d2 : w1.cell? ⟨gr, 2, none⟩ = some (.pointer (some ⟨gf, 0, none⟩)) := (World.cell?_of_block (a := ⟨gr, 2, none⟩) (hK1.block gr ⟨hgr, hne⟩)).trans hc2
    have hC1 : Coder w1 clo cB gf lf := HC.out.keep (fun b h1 h2 => hK1.block b ⟨by omega, HCG.out b h1 h2⟩)
    have C2 := get_any w1.drew clo cB gf lo g lf bs (at_ + m) HOK.out hC1.drew hR1.drew
    unfold GetPost at C2
    have hdom := getR_dom lf (head bs (at_ + m)) (there bs (at_ + m))
    obtain ⟨G, hG⟩ : ∃ G, G = getR lf (head bs (at_ + m)) (there bs (at_ + m)) := ⟨_, rfl⟩
    rw [← hG] at C2 hdom
    obtain ⟨gv, ge, ga⟩ := G
    simp only at C2 hdom
    have C2 := Lib.hid C2
    have HGG := Lib.hid hG
    have HBLK := Lib.hid blk1
    have HK1 := Lib.hid hK1
    have HDOM := Lib.hid hdom
    clear hG hC1 hR1 hk1 hK1 blk1 blk0 hdom C1 HR0 hbel0 HR HC
    go_upto_region 4 with fail
    go_region_held3 (fun wx => wx.cell? ⟨gr, 0, none⟩ = some (.pointer (some ⟨g, 0, none⟩)) ∧ wx.cell? ⟨gr, 2, none⟩ = some (.pointer (some ⟨gf, 0, none⟩))) (first | exact ⟨d0, d2⟩ | exact ⟨k0, k2⟩) (first | (go_at_call 332; (with_reducible refine C2.out.mono ?_); rintro e w2 ⟨rfl, hR2, hk2⟩; have k0 : w2.cell? ⟨gr, 0, none⟩ = some (.pointer (some ⟨g, 0, none⟩)) := (World.cell?_of_block (a := ⟨gr, 0, none⟩) (hk2.block gr hne)).trans d0; have k2 : w2.cell? ⟨gr, 2, none⟩ = some (.pointer (some ⟨gf, 0, none⟩)) := (World.cell?_of_block (a := ⟨gr, 2, none⟩) (hk2.block gr hne)).trans d2))
    have hK2 : Kept (fun x => x < w.heap.size ∧ x ≠ g) w w2 := HK1.out.trans ((Kept.refl _ w1).drew.trans ⟨hk2.os, hk2.tape, hk2.output, hk2.size, fun b h => hk2.block b h.2⟩)
    have blk2 : Blk w2 w.heap.size _ _ := (hk2.block w.heap.size (by show w.heap.size ≠ g; omega)).trans HBLK.out.drew
    have HR2 := Lib.hid hR2
    have HK2 := Lib.hid hK2
    have HBLK2 := Lib.hid blk2
    clear hR2 hk2 hK2 blk2 HBLK HK1 C2 d0 d2
    by_cases he : ge = 0
    · subst he
      obtain ⟨s, rfl, hs⟩ := HDOM.out rfl
      have hs11 : s ≤ 11 := by omega
      have C3 := bget_any w2 lo g bs (at_ + m + ga) s (by omega) HR2.out
      by_cases hin2 : at_ + m + ga + s ≤ bs.length
      · rw [(got_ok hin2).1, (got_ok hin2).2.1, (got_ok hin2).2.2] at C3
        have hyl := accB_lt bs (at_ + m + ga) s
        have hy8 : accB bs (at_ + m + ga) s < 4096 := Nat.lt_of_lt_of_le hyl (by have : 2 ^ s ≤ 2 ^ 11 := Nat.pow_le_pow_right (by omega) hs11; omega)
        have HG : Hid (matchR lf bs v at_ = (joinT ⟨v, (x : Nat), (s : Nat), (accB bs (at_ + m + ga) s : Nat)⟩, joinE ⟨v, (x : Nat), (s : Nat), (accB bs (at_ + m + ga) s : Nat)⟩, at_ + m + ga + s)) := by
          show _ = _
          unfold matchR
          rw [← HM.out, if_neg (fun h => h HIN.out), ← HGG.out]
          simp only [ne_eq, not_true_eq_false, if_false, Int.toNat_natCast]
          rw [if_neg (fun h => h hin2), HX.out]
        generalize accB bs (at_ + m + ga) s = y at *
        have C3 := Lib.hid C3
        have C4 := Lib.hid (fun wx => Toks.toks_join ⟨(v : Int), (x : Int), (s : Int), (y : Int)⟩ wx (by simp only; omega) (by simp only; omega))
        generalize joinT ⟨(v : Int), (x : Int), (s : Int), (y : Int)⟩ = T at *
        generalize joinE ⟨(v : Int), (x : Int), (s : Int), (y : Int)⟩ = E at *
        obtain ⟨ta, tb, tc⟩ := T
        unfold Toks.Tk.val Toks.Pc.val at C4
        simp only at C4
        clear hyl hin2
        go_wp2_with fail
        refine C3.out.mono ?_
        rintro e w3 ⟨rfl, hR3, hk3⟩
        have HR3 := Lib.hid hR3
        have HK3 : Hid (Kept (fun x => x < w.heap.size ∧ x ≠ g) w w3) := HK2.out.trans ⟨hk3.os, hk3.tape, hk3.output, hk3.size, fun b h => hk3.block b h.2⟩
        have HBLK3 : Hid (Blk w3 w.heap.size 235 #[.int .u8 0, .int .i64 0, .int .i64 0]) := (hk3.block w.heap.size (by show w.heap.size ≠ g; omega)).trans HBLK2.out
        have hz3 := HK3.out.size
        have hg3 := HBLK3.out.lt
        clear hR3 hk3 C3 HR2 HK2 HBLK2
        go_wp2_with fail
        refine (C4.out _).mono ?_
        rintro e w4 ⟨rfl, hb4⟩
        have HR4 : Hid (Rd w4 lo g bs (at_ + m + ga + s)) := HR3.out.keep (fun b _ h => hb4.block b (by omega)) hlo
        have HK4 : Hid (Kept (fun x => x < w.heap.size ∧ x ≠ g) w w4) := HK3.out.trans (Kept.of_below hb4 (fun b h => by have := h.1; omega))
        have HBLK4 : Hid (Blk w4 w.heap.size 235 #[.int .u8 0, .int .i64 0, .int .i64 0]) := HBLK3.out.step hb4
        have a4 := HBLK4.out.cell 0
        have b4 := HBLK4.out.cell 1
        have c4 := HBLK4.out.cell 2
        have fa4 := HBLK4.out.frozen 0
        have fb4 := HBLK4.out.frozen 1
        have fc4 := HBLK4.out.frozen 2
        simp only [List.getElem?_toArray, List.getElem?_cons_zero, List.getElem?_cons_succ] at a4 b4 c4
        clear hb4 C4 HR3 HK3 HBLK3
        go_wp2_with fail
        exact bodyPost_ret (Canon.results_cell_tmp rfl _ _ w.heap.size _ #[.int .u8 ta, .int .i64 tb, .int .i64 tc] _ (.int .i64 E) rfl rfl (((HBLK4.out.set 0 (.int .u8 ta)).set 1 (.int .i64 tb)).set 2 (.int .i64 tc)) Tryz.underlying235 rfl info_token) rfl ⟨by rw [HG.out]; rfl, by rw [HG.out]; exact HR4.out.keep (fun b _ h => ((Below.heap_setCell _ _ _ b (by show b ≠ w.heap.size; omega)).trans (Below.heap_setCell _ _ _ b (by show b ≠ w.heap.size; omega))).trans (Below.heap_setCell _ _ _ b (by show b ≠ w.heap.size; omega))) hlo, Kept.set (p := ⟨w.heap.size, 2, none⟩) (Kept.set (p := ⟨w.heap.size, 1, none⟩) (Kept.set (p := ⟨w.heap.size, 0, none⟩) HK4.out (fun h => absurd h.1 (Nat.lt_irrefl _)) _) (fun h => absurd h.1 (Nat.lt_irrefl _)) _) (fun h => absurd h.1 (Nat.lt_irrefl _)) _⟩
      · rw [(got_no hin2).1, (got_no hin2).2.1, (got_no hin2).2.2] at C3
        have C3 := Lib.hid C3
        have HG : Hid (matchR lf bs v at_ = (⟨0, 0, 0⟩, 1, at_ + m + ga)) := by
          show _ = _
          unfold matchR
          rw [← HM.out, if_neg (fun h => h HIN.out), ← HGG.out]
          simp only [ne_eq, not_true_eq_false, if_false, Int.toNat_natCast]
          rw [if_pos hin2]
        clear hin2
        go_wp2_with fail
        refine C3.out.mono ?_
        rintro e w3 ⟨rfl, hR3, hk3⟩
        have HR3 := Lib.hid hR3
        have HK3 : Hid (Kept (fun x => x < w.heap.size ∧ x ≠ g) w w3) := HK2.out.trans ⟨hk3.os, hk3.tape, hk3.output, hk3.size, fun b h => hk3.block b h.2⟩
        have HBLK3 : Hid (Blk w3 w.heap.size 235 #[.int .u8 0, .int .i64 0, .int .i64 0]) := (hk3.block w.heap.size (by show w.heap.size ≠ g; omega)).trans HBLK2.out
        have a3 := HBLK3.out.cell 0
        have b3 := HBLK3.out.cell 1
        have c3 := HBLK3.out.cell 2
        have fa3 := HBLK3.out.frozen 0
        have fb3 := HBLK3.out.frozen 1
        have fc3 := HBLK3.out.frozen 2
        simp only [List.getElem?_toArray, List.getElem?_cons_zero, List.getElem?_cons_succ] at a3 b3 c3
        clear hR3 hk3 C3 HR2 HK2 HBLK2
        go_wp2_with fail
        exact bodyPost_ret (Canon.results_cell_tmp rfl _ _ w.heap.size _ #[.int .u8 0, .int .i64 0, .int .i64 0] _ (.int .i64 1) rfl rfl (((HBLK3.out.set 0 (.int .u8 0)).set 1 (.int .i64 0)).set 2 (.int .i64 0)) Tryz.underlying235 rfl info_token) rfl ⟨by rw [HG.out]; rfl, by rw [HG.out]; exact HR3.out.keep (fun b _ h => ((Below.heap_setCell _ _ _ b (by show b ≠ w.heap.size; omega)).trans (Below.heap_setCell _ _ _ b (by show b ≠ w.heap.size; omega))).trans (Below.heap_setCell _ _ _ b (by show b ≠ w.heap.size; omega))) hlo, Kept.set (p := ⟨w.heap.size, 2, none⟩) (Kept.set (p := ⟨w.heap.size, 1, none⟩) (Kept.set (p := ⟨w.heap.size, 0, none⟩) HK3.out (fun h => absurd h.1 (Nat.lt_irrefl _)) _) (fun h => absurd h.1 (Nat.lt_irrefl _)) _) (fun h => absurd h.1 (Nat.lt_irrefl _)) _⟩
    · have hb : (ge != 0) = true := bne_iff_ne.mpr he
      have HG : Hid (matchR lf bs v at_ = (⟨0, 0, 0⟩, ge, at_ + m + ga)) := by
        show _ = _
        unfold matchR
        rw [← HM.out, if_neg (fun h => h HIN.out), ← HGG.out]
        simp only
        rw [if_pos he]
      clear he HDOM
      have a2 := HBLK2.out.cell 0
      have b2 := HBLK2.out.cell 1
      have c2 := HBLK2.out.cell 2
      have fa2 := HBLK2.out.frozen 0
      have fb2 := HBLK2.out.frozen 1
      have fc2 := HBLK2.out.frozen 2
      simp only [List.getElem?_toArray, List.getElem?_cons_zero, List.getElem?_cons_succ] at a2 b2 c2
      go_wp2_with fail
      exact bodyPost_ret (Canon.results_cell_tmp rfl _ _ w.heap.size _ #[.int .u8 0, .int .i64 0, .int .i64 0] _ (.int .i64 ge) rfl rfl (((HBLK2.out.set 0 (.int .u8 0)).set 1 (.int .i64 0)).set 2 (.int .i64 0)) Tryz.underlying235 rfl info_token) rfl ⟨by rw [HG.out]; rfl, by rw [HG.out]; exact HR2.out.keep (fun b _ h => ((Below.heap_setCell _ _ _ b (by show b ≠ w.heap.size; omega)).trans (Below.heap_setCell _ _ _ b (by show b ≠ w.heap.size; omega))).trans (Below.heap_setCell _ _ _ b (by show b ≠ w.heap.size; omega))) hlo, Kept.set (p := ⟨w.heap.size, 2, none⟩) (Kept.set (p := ⟨w.heap.size, 1, none⟩) (Kept.set (p := ⟨w.heap.size, 0, none⟩) HK2.out (fun h => absurd h.1 (Nat.lt_irrefl _)) _) (fun h => absurd h.1 (Nat.lt_irrefl _)) _) (fun h => absurd h.1 (Nat.lt_irrefl _)) _⟩
  · rw [(got_no hin).1, (got_no hin).2.1, (got_no hin).2.2] at C1
    have C1 := Lib.hid C1
    have HG : Hid (matchR lf bs v at_ = (⟨0, 0, 0⟩, 1, at_)) := by show _ = _; unfold matchR; rw [← HM.out, if_pos hin]
    clear hin
    refine C1.out.mono ?_
    rintro e w1 ⟨rfl, hR1, hk1⟩
    have hK1 : Kept (fun x => x < w.heap.size ∧ x ≠ g) w w1 := (Kept.of_below hbel0 (fun _ h => h.1)).trans ⟨hk1.os, hk1.tape, hk1.output, hk1.size, fun b h => hk1.block b h.2⟩
    have blk1 : Blk w1 w.heap.size _ _ := (hk1.block w.heap.size (by show w.heap.size ≠ g; omega)).trans blk0
    have a1 := blk1.cell 0
    have b1 := blk1.cell 1
    have c1 := blk1.cell 2
    have fa1 := blk1.frozen 0
    have fb1 := blk1.frozen 1
    have fc1 := blk1.frozen 2
    simp only [List.getElem?_toArray, List.getElem?_cons_zero, List.getElem?_cons_succ] at a1 b1 c1
    have HR1 := Lib.hid hR1
    have HK1 := Lib.hid hK1
    have HBLK := Lib.hid blk1
    clear hR1 hk1 hK1 blk1 blk0 C1 HR0 hbel0 HR HC
    go_wp2_with fail
    exact bodyPost_ret (Canon.results_cell_tmp rfl _ _ w.heap.size _ #[.int .u8 0, .int .i64 0, .int .i64 0] _ (.int .i64 1) rfl rfl (((HBLK.out.set 0 (.int .u8 0)).set 1 (.int .i64 0)).set 2 (.int .i64 0)) Tryz.underlying235 rfl info_token) rfl ⟨by rw [HG.out]; rfl, by rw [HG.out]; exact HR1.out.keep (fun b _ h => ((Below.heap_setCell _ _ _ b (by show b ≠ w.heap.size; omega)).trans (Below.heap_setCell _ _ _ b (by show b ≠ w.heap.size; omega))).trans (Below.heap_setCell _ _ _ b (by show b ≠ w.heap.size; omega))) hlo, Kept.set (p := ⟨w.heap.size, 2, none⟩) (Kept.set (p := ⟨w.heap.size, 1, none⟩) (Kept.set (p := ⟨w.heap.size, 0, none⟩) HK1.out (fun h => absurd h.1 (Nat.lt_irrefl _)) _) (fun h => absurd h.1 (Nat.lt_irrefl _)) _) (fun h => absurd h.1 (Nat.lt_irrefl _)) _⟩
end Go.Proofs.YtmgjgkdbagbleaaGreatDoor.Huff
namespace Go.Proofs.YtmgjgkdbagbleaaGreatDoor.Huff
open Go.RowKit Go.Proofs.YtmgjgkdbagbleaaGreatDoor.Mem Go.Proofs.YtmgjgkdbagbleaaGreatDoor.Canon Go.Proofs.YtmgjgkdbagbleaaGreatDoor.Own
open Go.Proofs.YtmgjgkdbagbleaaGreatDoor.Toks (Tk Pc joinT joinE pw)
theorem results_cell_tmp2 {P : Program} {fn : Func} {p q r : Tmp} {ty : TypeId} (h : fn.results = #[.cell p ty, .tmp q, .tmp r]) (tmps : Array Value) (w : World) (g : Nat) (t : TypeId) (cs : Array Value) (d : TypeDesc) (u v : Value)
    (hp : tmps.getD p undef = .pointer (some ⟨g, 0, none⟩)) (hq : tmps.getD q undef = u) (hr : tmps.getD r undef = v) (hg : Blk w g t cs)
    (hu : P.underlying ty = some d) (hd : (match d with | .struct _ | .array _ _ => true | _ => false) = true) (hi : (P.info? ty).map (·.size) = some cs.size) :
    (results fn tmps).run P w = .ok (.tuple #[.agg cs, u, v]) w := by
  have hp' : tmps[p]?.getD undef = .pointer (some ⟨g, 0, none⟩) := by simpa using hp
  have hq' : tmps[q]?.getD undef = u := by simpa using hq
  have hr' : tmps[r]?.getD undef = v := by simpa using hr
  simp [results, h, hp', hq', hr', asAddr, run_loadVar_row w g t ty cs (0, 0) d hg hu hd hi]
def tokenR (ls lf : List Nat) (bs : List Bool) (at_ : Nat) : Tk × Bool × Int × Nat :=
  let G := getR ls (head bs at_) (there bs at_)
  if G.2.1 ≠ 0 then (⟨0, 0, 0⟩, false, G.2.1, at_ + G.2.2) else
  if G.1 = 256 then (⟨0, 0, 0⟩, false, 0, at_ + G.2.2) else
  if G.1 < 256 then (⟨G.1, 0, 0⟩, true, 0, at_ + G.2.2) else
  let M := matchR lf bs G.1.toNat (at_ + G.2.2)
  (M.1, decide (M.2.1 = 0), M.2.1, M.2.2)
def TokPost (R : Tk × Bool × Int × Nat) (lo g : Nat) (bs : List Bool) (w : World) (e : Ending) (w' : World) : Prop :=
  e = .returned (.tuple #[R.1.val, .bool R.2.1, .int .i64 R.2.2.1]) ∧ Rd w' lo g bs R.2.2.2 ∧ Kept (fun x => x < w.heap.size ∧ x ≠ g) w w'
set_option maxHeartbeats 1000000 in
set_option maxRecDepth 100000 in
theorem token_any (w : World) (gr lo g clo cB gs gf : Nat) (ls lf : List Nat) (bs : List Bool) (at_ : Nat) (hlo : lo ≤ g) (hc0 : w.cell? ⟨gr, 0, none⟩ = some (.pointer (some ⟨g, 0, none⟩))) (hc1 : w.cell? ⟨gr, 1, none⟩ = some (.pointer (some ⟨gs, 0, none⟩))) (hc2 : w.cell? ⟨gr, 2, none⟩ = some (.pointer (some ⟨gf, 0, none⟩))) (hgr : gr < w.heap.size) (hne : gr ≠ g)
    (hoks : okB ls = true) (hls : ls.length ≤ 265) (hCs : Coder w clo cB gs ls) (hok : okB lf = true) (hlf : lf.length ≤ 12) (hC : Coder w clo cB gf lf) (hcB : cB ≤ w.heap.size) (hcg : ∀ b, clo ≤ b → b < cB → b ≠ g) (hR : Rd w lo g bs at_) :
    Calls Tryz.prog 319 #[.pointer (some ⟨gr, 0, none⟩)] w (TokPost (tokenR ls lf bs at_) lo g bs w) := by
  have hgl := hR.lt
  have HR := Lib.hid hR
  have HC := Lib.hid hC
  have HCS := Lib.hid hCs
  have HOK := Lib.hid hok
  have HOKS := Lib.hid hoks
  have HCG := Lib.hid hcg
  clear hR hC hok hcg hCs hoks
  go_enter Tryz.func319, Tryz.ntmps319
  go_upto_region 1 with fail
  have hbel0 : Below w.heap.size w (w.alloc (.cells #[.int .u8 0, .int .i64 0, .int .i64 0] 235)) := bel_alloc0 (Below.refl _ _)
  have blk0 : Blk (w.alloc (.cells #[.int .u8 0, .int .i64 0, .int .i64 0] 235)) w.heap.size 235 #[.int .u8 0, .int .i64 0, .int .i64 0] := Blk.made _ _ _
  generalize w.alloc (.cells #[.int .u8 0, .int .i64 0, .int .i64 0] 235) = w0 at *
  have HR0 : Hid (Rd w0 lo g bs at_) := HR.out.keep (fun b _ h => hbel0.block b (by omega)) hlo
  have hC0 : Coder w0 clo cB gs ls := HCS.out.below hbel0 hcB
  have d0 := (hbel0.cell (p := ⟨gr, 0, none⟩) hgr).trans hc0
  have d1 := (hbel0.cell (p := ⟨gr, 1, none⟩) hgr).trans hc1
  have d2 := (hbel0.cell (p := ⟨gr, 2, none⟩) hgr).trans hc2
  have C2 := get_any w0.drew clo cB gs lo g ls bs at_ HOKS.out hC0.drew HR0.out.drew
  unfold GetPost at C2
  have hdom := getR_dom ls (head bs at_) (there bs at_)
  obtain ⟨G, hG⟩ : ∃ G, G = getR ls (head bs at_) (there bs at_) := ⟨_, rfl⟩
  rw [← hG] at C2 hdom
  obtain ⟨gv, ge, ga⟩ := G
  simp only at C2 hdom
  have C2 := Lib.hid C2
  have HGG := Lib.hid hG
  have HBLK := Lib.hid blk0
  have HB0 := Lib.hid hbel0
  have HDOM := Lib.hid hdom
  clear hG hC0 hbel0 blk0 hdom HR0
  go_region_held3 (fun wx => wx.cell? ⟨gr, 0, none⟩ = some (.pointer (some ⟨g, 0, none⟩)) ∧ wx.cell? ⟨gr, 1, none⟩ = some (.pointer (some ⟨gs, 0, none⟩))) (first | exact ⟨d0, d1⟩ | exact ⟨k0, k1⟩) (first | (go_at_call 332; (with_reducible refine C2.out.mono ?_); rintro e w2 ⟨rfl, hR2, hk2⟩; have k0 : w2.cell? ⟨gr, 0, none⟩ = some (.pointer (some ⟨g, 0, none⟩)) := (World.cell?_of_block (a := ⟨gr, 0, none⟩) (hk2.block gr hne)).trans d0; have k1 : w2.cell? ⟨gr, 1, none⟩ = some (.pointer (some ⟨gs, 0, none⟩)) := (World.cell?_of_block (a := ⟨gr, 1, none⟩) (hk2.block gr hne)).trans d1))
  have hK2 : Kept (fun x => x < w.heap.size ∧ x ≠ g) w w2 := (Kept.of_below HB0.out (fun _ h => h.1)).trans ((Kept.refl _ w0).drew.trans ⟨hk2.os, hk2.tape, hk2.output, hk2.size, fun b h => hk2.block b h.2⟩)
  have blk2 : Blk w2 w.heap.size _ _ := (hk2.block w.heap.size (by show w.heap.size ≠ g; omega)).trans HBLK.out.drew
  have k2 : w2.cell? ⟨gr, 2, none⟩ = some (.pointer (some ⟨gf, 0, none⟩)) := (World.cell?_of_block (a := ⟨gr, 2, none⟩) (hk2.block gr hne)).trans d2
  have hg2l := blk2.lt
  have a2 := blk2.cell 0
  have b2 := blk2.cell 1
  have c2 := blk2.cell 2
  have fa2 := blk2.frozen 0
  have fb2 := blk2.frozen 1
  have fc2 := blk2.frozen 2
  simp only [List.getElem?_toArray, List.getElem?_cons_zero, List.getElem?_cons_succ] at a2 b2 c2
  have HR2 := Lib.hid hR2
  have HK2 := Lib.hid hK2
  have HBLK2 := Lib.hid blk2
  clear hR2 hk2 hK2 blk2 HBLK HB0 C2 d0 d1 d2
  by_cases he : ge = 0
  · subst he
    obtain ⟨s, rfl, hs⟩ := HDOM.out rfl
    by_cases h256 : s = 256
    · subst h256
      have HG : Hid (tokenR ls lf bs at_ = (⟨0, 0, 0⟩, false, 0, at_ + ga)) := by
        show _ = _
        unfold tokenR
        rw [← HGG.out]
        rfl
      go_wp2_with fail
      exact bodyPost_ret (results_cell_tmp2 rfl _ _ w.heap.size _ #[.int .u8 0, .int .i64 0, .int .i64 0] _ (.bool false) (.int .i64 0) rfl rfl rfl (((HBLK2.out.set 0 (.int .u8 0)).set 1 (.int .i64 0)).set 2 (.int .i64 0)) Tryz.underlying235 rfl info_token) rfl ⟨by rw [HG.out]; rfl, by rw [HG.out]; exact HR2.out.keep (fun b _ h => (((Below.heap_setCell _ _ _ b (by show b ≠ w.heap.size; omega)).trans (Below.heap_setCell _ _ _ b (by show b ≠ w.heap.size; omega))).trans (Below.heap_setCell _ _ _ b (by show b ≠ w.heap.size; omega)))) hlo, (Kept.set (p := ⟨w.heap.size, 2, none⟩) (Kept.set (p := ⟨w.heap.size, 1, none⟩) (Kept.set (p := ⟨w.heap.size, 0, none⟩) HK2.out (fun h => absurd h.1 (Nat.lt_irrefl _)) _) (fun h => absurd h.1 (Nat.lt_irrefl _)) _) (fun h => absurd h.1 (Nat.lt_irrefl _)) _)⟩
    · have hsb : ((s : Int) == 256) = false := by simp; omega
      by_cases hlt : s < 256
      · have HG : Hid (tokenR ls lf bs at_ = (⟨s, 0, 0⟩, true, 0, at_ + ga)) := by
          show _ = _
          unfold tokenR
          rw [← HGG.out]
          simp only
          rw [if_neg (by omega), if_neg (by omega), if_pos (by omega)]
        clear h256
        go_wp2_with fail
        exact bodyPost_ret (results_cell_tmp2 rfl _ _ w.heap.size _ #[.int .u8 (s : Nat), .int .i64 0, .int .i64 0] _ (.bool true) (.int .i64 0) rfl rfl rfl (((HBLK2.out.set 0 (.int .u8 (s : Nat))).set 1 (.int .i64 0)).set 2 (.int .i64 0)) Tryz.underlying235 rfl info_token) rfl ⟨by rw [HG.out]; rfl, by rw [HG.out]; exact HR2.out.keep (fun b _ h => (((Below.heap_setCell _ _ _ b (by show b ≠ w.heap.size; omega)).trans (Below.heap_setCell _ _ _ b (by show b ≠ w.heap.size; omega))).trans (Below.heap_setCell _ _ _ b (by show b ≠ w.heap.size; omega)))) hlo, (Kept.set (p := ⟨w.heap.size, 2, none⟩) (Kept.set (p := ⟨w.heap.size, 1, none⟩) (Kept.set (p := ⟨w.heap.size, 0, none⟩) HK2.out (fun h => absurd h.1 (Nat.lt_irrefl _)) _) (fun h => absurd h.1 (Nat.lt_irrefl _)) _) (fun h => absurd h.1 (Nat.lt_irrefl _)) _)⟩
      · have hC2 : Coder w2 clo cB gf lf := HC.out.keep (fun b h1 h2 => HK2.out.block b ⟨by omega, HCG.out b h1 h2⟩)
        have C3 := match_any w2 gr lo g clo cB gf lf bs s (at_ + ga) (by omega) (by omega) hlo k0 k2 (by omega) hne HOK.out hlf hC2 (by omega) HCG.out HR2.out
        have HG0 : Hid (tokenR ls lf bs at_ = ((matchR lf bs s (at_ + ga)).1, decide ((matchR lf bs s (at_ + ga)).2.1 = 0), (matchR lf bs s (at_ + ga)).2.1, (matchR lf bs s (at_ + ga)).2.2)) := by
          show _ = _
          unfold tokenR
          rw [← HGG.out]
          simp only
          rw [if_neg (by omega), if_neg (by omega), if_neg (by omega), Int.toNat_natCast]
        unfold MatchPost at C3
        generalize matchR lf bs s (at_ + ga) = M at *
        obtain ⟨⟨ta, tb, tc⟩, me, ma⟩ := M
        unfold Toks.Tk.val at C3
        simp only at C3 HG0
        have C3 := Lib.hid C3
        clear h256 hC2
        go_wp2_with fail
        refine C3.out.mono ?_
        rintro e w3 ⟨rfl, hR3, hk3⟩
        have blk3 : Blk w3 w.heap.size _ _ := (hk3.block w.heap.size ⟨hg2l, by omega⟩).trans HBLK2.out
        have a3 := blk3.cell 0
        have b3 := blk3.cell 1
        have c3 := blk3.cell 2
        have fa3 := blk3.frozen 0
        have fb3 := blk3.frozen 1
        have fc3 := blk3.frozen 2
        simp only [List.getElem?_toArray, List.getElem?_cons_zero, List.getElem?_cons_succ] at a3 b3 c3
        have HBLK3 := Lib.hid blk3
        have HR3 := Lib.hid hR3
        have HK3 : Hid (Kept (fun x => x < w.heap.size ∧ x ≠ g) w w3) := HK2.out.trans ⟨hk3.os, hk3.tape, hk3.output, hk3.size, fun b h => hk3.block b ⟨by have := h.1; omega, h.2⟩⟩
        clear blk3 hR3 hk3 C3 a2 b2 c2 fa2 fb2 fc2
        by_cases hme : me = 0
        · subst hme
          have HG : Hid (tokenR ls lf bs at_ = (⟨ta, tb, tc⟩, true, 0, ma)) := HG0.out
          clear HG0
          go_wp2_with fail
          exact bodyPost_ret (results_cell_tmp2 rfl _ _ w.heap.size _ #[.int .u8 ta, .int .i64 tb, .int .i64 tc] _ (.bool true) (.int .i64 0) rfl rfl rfl ((((((HBLK3.out.set 0 (.int .u8 ta)).set 1 (.int .i64 tb)).set 2 (.int .i64 tc)).set 0 (.int .u8 ta)).set 1 (.int .i64 tb)).set 2 (.int .i64 tc)) Tryz.underlying235 rfl info_token) rfl ⟨by rw [HG.out]; rfl, by rw [HG.out]; exact HR3.out.keep (fun b _ h => ((((Below.heap_setCell _ _ _ b (by show b ≠ w.heap.size; omega)).trans (Below.heap_setCell _ _ _ b (by show b ≠ w.heap.size; omega))).trans (Below.heap_setCell _ _ _ b (by show b ≠ w.heap.size; omega))).trans (((Below.heap_setCell _ _ _ b (by show b ≠ w.heap.size; omega)).trans (Below.heap_setCell _ _ _ b (by show b ≠ w.heap.size; omega))).trans (Below.heap_setCell _ _ _ b (by show b ≠ w.heap.size; omega))))) hlo, (Kept.set (p := ⟨w.heap.size, 2, none⟩) (Kept.set (p := ⟨w.heap.size, 1, none⟩) (Kept.set (p := ⟨w.heap.size, 0, none⟩) (Kept.set (p := ⟨w.heap.size, 2, none⟩) (Kept.set (p := ⟨w.heap.size, 1, none⟩) (Kept.set (p := ⟨w.heap.size, 0, none⟩) HK3.out (fun h => absurd h.1 (Nat.lt_irrefl _)) _) (fun h => absurd h.1 (Nat.lt_irrefl _)) _) (fun h => absurd h.1 (Nat.lt_irrefl _)) _) (fun h => absurd h.1 (Nat.lt_irrefl _)) _) (fun h => absurd h.1 (Nat.lt_irrefl _)) _) (fun h => absurd h.1 (Nat.lt_irrefl _)) _)⟩
        · have hmb : (me == 0) = false := by simp [hme]
          have HG : Hid (tokenR ls lf bs at_ = (⟨ta, tb, tc⟩, false, me, ma)) := by
            show _ = _
            rw [HG0.out, decide_eq_false hme]
          clear HG0 hme
          go_wp2_with fail
          exact bodyPost_ret (results_cell_tmp2 rfl _ _ w.heap.size _ #[.int .u8 ta, .int .i64 tb, .int .i64 tc] _ (.bool false) (.int .i64 me) rfl rfl rfl ((((((HBLK3.out.set 0 (.int .u8 ta)).set 1 (.int .i64 tb)).set 2 (.int .i64 tc)).set 0 (.int .u8 ta)).set 1 (.int .i64 tb)).set 2 (.int .i64 tc)) Tryz.underlying235 rfl info_token) rfl ⟨by rw [HG.out]; rfl, by rw [HG.out]; exact HR3.out.keep (fun b _ h => ((((Below.heap_setCell _ _ _ b (by show b ≠ w.heap.size; omega)).trans (Below.heap_setCell _ _ _ b (by show b ≠ w.heap.size; omega))).trans (Below.heap_setCell _ _ _ b (by show b ≠ w.heap.size; omega))).trans (((Below.heap_setCell _ _ _ b (by show b ≠ w.heap.size; omega)).trans (Below.heap_setCell _ _ _ b (by show b ≠ w.heap.size; omega))).trans (Below.heap_setCell _ _ _ b (by show b ≠ w.heap.size; omega))))) hlo, (Kept.set (p := ⟨w.heap.size, 2, none⟩) (Kept.set (p := ⟨w.heap.size, 1, none⟩) (Kept.set (p := ⟨w.heap.size, 0, none⟩) (Kept.set (p := ⟨w.heap.size, 2, none⟩) (Kept.set (p := ⟨w.heap.size, 1, none⟩) (Kept.set (p := ⟨w.heap.size, 0, none⟩) HK3.out (fun h => absurd h.1 (Nat.lt_irrefl _)) _) (fun h => absurd h.1 (Nat.lt_irrefl _)) _) (fun h => absurd h.1 (Nat.lt_irrefl _)) _) (fun h => absurd h.1 (Nat.lt_irrefl _)) _) (fun h => absurd h.1 (Nat.lt_irrefl _)) _) (fun h => absurd h.1 (Nat.lt_irrefl _)) _)⟩
  · have hb : (ge != 0) = true := bne_iff_ne.mpr he
    have HG : Hid (tokenR ls lf bs at_ = (⟨0, 0, 0⟩, false, ge, at_ + ga)) := by
      show _ = _
      unfold tokenR
      rw [← HGG.out]
      simp only
      rw [if_pos he]
    clear he HDOM
    go_wp2_with fail
    exact bodyPost_ret (results_cell_tmp2 rfl _ _ w.heap.size _ #[.int .u8 0, .int .i64 0, .int .i64 0] _ (.bool false) (.int .i64 ge) rfl rfl rfl (((HBLK2.out.set 0 (.int .u8 0)).set 1 (.int .i64 0)).set 2 (.int .i64 0)) Tryz.underlying235 rfl info_token) rfl ⟨by rw [HG.out]; rfl, by rw [HG.out]; exact HR2.out.keep (fun b _ h => (((Below.heap_setCell _ _ _ b (by show b ≠ w.heap.size; omega)).trans (Below.heap_setCell _ _ _ b (by show b ≠ w.heap.size; omega))).trans (Below.heap_setCell _ _ _ b (by show b ≠ w.heap.size; omega)))) hlo, (Kept.set (p := ⟨w.heap.size, 2, none⟩) (Kept.set (p := ⟨w.heap.size, 1, none⟩) (Kept.set (p := ⟨w.heap.size, 0, none⟩) HK2.out (fun h => absurd h.1 (Nat.lt_irrefl _)) _) (fun h => absurd h.1 (Nat.lt_irrefl _)) _) (fun h => absurd h.1 (Nat.lt_irrefl _)) _)⟩
end Go.Proofs.YtmgjgkdbagbleaaGreatDoor.Huff
namespace Go.Proofs.YtmgjgkdbagbleaaGreatDoor.Huff
open Go.RowKit Go.Proofs.YtmgjgkdbagbleaaGreatDoor.Mem Go.Proofs.YtmgjgkdbagbleaaGreatDoor.Canon Go.Proofs.YtmgjgkdbagbleaaGreatDoor.Own
open Go.Proofs.YtmgjgkdbagbleaaGreatDoor.Toks (Tk Pc joinT joinE pw mayB)
theorem getR_adv {ls : List Nat} {X th : Nat} (h : (getR ls X th).2.1 = 0) : 0 < (getR ls X th).2.2 := by
  unfold getR at h ⊢
  cases hf : (List.range ls.length).find? (hit ls X th) with
  | some s =>
    obtain ⟨x, hx, hx0, _⟩ := hit_iff.1 (List.find?_some hf)
    simp only [List.getD_eq_getElem?_getD, hx, Option.getD_some]
    omega
  | none =>
    rw [hf] at h
    simp only at h
    split at h <;> cases h
def MayTk (t : Tk) : Prop := mayB t.lit t.len t.dist = true ∧ (0 ≤ t.lit ∧ t.lit ≤ 255) ∧ (0 ≤ t.len ∧ t.len ≤ 257)
theorem matchR_may {lf : List Nat} (hlf : lf.length ≤ 12) (bs : List Bool) {v at_ : Nat} (hv1 : 257 ≤ v) (hv2 : v ≤ 264) (h : (matchR lf bs v at_).2.1 = 0) : MayTk (matchR lf bs v at_).1 ∧ at_ ≤ (matchR lf bs v at_).2.2 := by
  unfold matchR at h ⊢
  simp only at h ⊢
  split at h
  · cases h
  · rename_i h1
    rw [if_neg h1]
    split at h
    · rename_i h2
      exact absurd h h2
    · rename_i h2
      rw [if_neg h2]
      split at h
      · cases h
      · rename_i h3
        rw [if_neg h3]
        obtain ⟨s, hs, hsl⟩ := getR_dom lf _ _ (Decidable.not_not.1 h2)
        rw [hs] at h h3 ⊢
        rw [Int.toNat_natCast] at h h3 ⊢
        have b1 := accB_lt bs at_ (v - 257)
        have b2 := accB_lt bs (at_ + (v - 257) + (getR lf (head bs (at_ + (v - 257))) (there bs (at_ + (v - 257)))).2.2) s
        generalize accB bs at_ (v - 257) = x at *
        generalize accB bs (at_ + (v - 257) + (getR lf (head bs (at_ + (v - 257))) (there bs (at_ + (v - 257)))).2.2) s = y at *
        have p1 : pw ((v : Int) - 257) = ((2 ^ (v - 257) : Nat) : Int) := by unfold pw; rw [show ((v : Int) - 257).toNat = v - 257 by omega]
        have p2 : pw (s : Int) = ((2 ^ s : Nat) : Int) := by unfold pw; rw [Int.toNat_natCast]
        have q1 : 2 ^ (v - 257) ≤ 2 ^ 7 := Nat.pow_le_pow_right (by omega) (by omega)
        have q2 : 2 ^ s ≤ 2 ^ 11 := Nat.pow_le_pow_right (by omega) (by omega)
        have q3 := Nat.two_pow_pos (v - 257)
        have q4 := Nat.two_pow_pos s
        have hj := (Toks.join_match ⟨(v : Int), (x : Int), (s : Int), (y : Int)⟩ (by simp only; omega) (by simp only; omega) (by simp only; omega) (by simp only; omega) (by simp only; rw [p1]; omega) (by simp only; rw [p2]; omega)).1
        simp only at hj
        rw [p1, p2] at hj
        generalize 2 ^ (v - 257) = P at *
        generalize 2 ^ s = Q at *
        refine ⟨?_, by show at_ ≤ at_ + (v - 257) + _ + s; omega⟩
        rw [hj]
        refine ⟨?_, ⟨by simp, by simp⟩, ⟨by simp only; omega, by simp only; omega⟩⟩
        unfold mayB
        simp only
        rw [if_neg (by omega), decide_eq_true_eq]
        exact ⟨by first | rfl | trivial, by omega, by omega, by omega, by omega⟩
set_option maxRecDepth 100000 in
theorem tokenR_may {ls lf : List Nat} (hls : ls.length ≤ 265) (hlf : lf.length ≤ 12) (bs : List Bool) {at_ : Nat} (h : (tokenR ls lf bs at_).2.2.1 = 0) :
    ((tokenR ls lf bs at_).2.1 = true → MayTk (tokenR ls lf bs at_).1) ∧ at_ < (tokenR ls lf bs at_).2.2.2 := by
  have hdom := getR_dom ls (head bs at_) (there bs at_)
  have hadv := getR_adv (ls := ls) (X := head bs at_) (th := there bs at_)
  unfold tokenR at h ⊢
  simp only at h ⊢
  generalize getR ls (head bs at_) (there bs at_) = G at *
  obtain ⟨gv, ge, ga⟩ := G
  simp only at h hdom hadv ⊢
  by_cases h1 : ge = 0
  · subst h1
    obtain ⟨s, rfl, hs⟩ := hdom rfl
    have ha := hadv rfl
    rw [if_neg (by simp)] at h ⊢
    by_cases h2 : (s : Int) = 256
    · rw [if_pos h2]
      exact ⟨fun e => (by cases e), by simp only; omega⟩
    · rw [if_neg h2] at h ⊢
      by_cases h3 : (s : Int) < 256
      · rw [if_pos h3]
        refine ⟨fun _ => ⟨?_, ⟨by simp only; omega, by simp only; omega⟩, ⟨by simp, by simp⟩⟩, by simp only; omega⟩
        unfold mayB
        simp
      · rw [if_neg h3, Int.toNat_natCast] at h ⊢
        have hm := matchR_may hlf bs (v := s) (at_ := at_ + ga) (by omega) (by omega) h
        exact ⟨fun _ => hm.1, by simp only; omega⟩
  · rw [if_pos h1] at h
    exact absurd h h1
def toksGo (ls lf : List Nat) (bs : List Bool) : Nat → Int → List Tk → Nat → List Tk × Int
  | 0, _, _, _ => ([], 0)
  | f + 1, most, out, at_ =>
    let R := tokenR ls lf bs at_
    if R.2.2.1 ≠ 0 then ([], R.2.2.1)
    else if R.2.1 = false then (if padE bs R.2.2.2 = 0 then (out, 0) else ([], 2))
    else if most - max 1 R.1.len < 0 then ([], 6)
    else toksGo ls lf bs f (most - max 1 R.1.len) (out ++ [R.1]) R.2.2.2
def readToks (lb : List Nat) (most : Int) : List Tk × Int :=
  if most < 0 then ([], 13) else
  if (readGo (rbits lb) 265 266 [] false 0).2.1 ≠ 0 then ([], (readGo (rbits lb) 265 266 [] false 0).2.1) else
  if (readGo (rbits lb) 12 13 [] false (readGo (rbits lb) 265 266 [] false 0).2.2).2.1 ≠ 0 then ([], (readGo (rbits lb) 12 13 [] false (readGo (rbits lb) 265 266 [] false 0).2.2).2.1) else
  toksGo (readGo (rbits lb) 265 266 [] false 0).1 (readGo (rbits lb) 12 13 [] false (readGo (rbits lb) 265 266 [] false 0).2.2).1 (rbits lb) ((rbits lb).length + 1) most [] (readGo (rbits lb) 12 13 [] false (readGo (rbits lb) 265 266 [] false 0).2.2).2.2
def sizeT : List Tk → Int
  | [] => 0
  | t :: ts => max 1 t.len + sizeT ts
theorem sizeT_snoc (ts : List Tk) (t : Tk) : sizeT (ts ++ [t]) = sizeT ts + max 1 t.len := by
  induction ts with
  | nil => simp [sizeT]
  | cons a ts ih => rw [List.cons_append, sizeT, sizeT, ih]; omega
theorem toksGo_may {ls lf : List Nat} (hls : ls.length ≤ 265) (hlf : lf.length ≤ 12) (bs : List Bool) (most0 : Int) (h0 : 0 ≤ most0) : ∀ (f : Nat) (most : Int) (out : List Tk) (at_ : Nat), 0 ≤ most → sizeT out + most = most0 → (∀ t ∈ out, MayTk t) → ∀ ts e, toksGo ls lf bs f most out at_ = (ts, e) →
    (e = 0 → (∀ t ∈ ts, MayTk t) ∧ sizeT ts ≤ most0) ∧ (e ≠ 0 → ts = [])
  | 0, most, out, at_, hm, hs, hall, ts, e, h => by
    rw [toksGo] at h
    injection h with h1 h2
    subst h1 h2
    exact ⟨fun _ => ⟨fun t ht => (by cases ht), by simp only [sizeT]; omega⟩, fun _ => rfl⟩
  | f + 1, most, out, at_, hm, hs, hall, ts, e, h => by
    rw [toksGo] at h
    split at h
    · rename_i h1
      injection h with e1 e2
      subst e1 e2
      exact ⟨fun e => absurd e h1, fun _ => rfl⟩
    · rename_i h1
      have hmay := tokenR_may hls hlf bs (Decidable.not_not.1 h1)
      split at h
      · split at h
        · injection h with e1 e2
          subst e1 e2
          exact ⟨fun _ => ⟨hall, by omega⟩, fun e => absurd rfl e⟩
        · injection h with e1 e2
          subst e1 e2
          exact ⟨fun e => (by cases e), fun _ => rfl⟩
      · rename_i h2
        have h2 : (tokenR ls lf bs at_).2.1 = true := by simpa using h2
        split at h
        · injection h with e1 e2
          subst e1 e2
          exact ⟨fun e => (by cases e), fun _ => rfl⟩
        · rename_i h3
          refine toksGo_may hls hlf bs most0 h0 f _ _ _ (by omega) (by rw [sizeT_snoc]; omega) ?_ ts e h
          intro t ht
          rw [List.mem_append, List.mem_singleton] at ht
          rcases ht with ht | rfl
          · exact hall t ht
          · exact hmay.1 h2
theorem readToks_may (lb : List Nat) (most : Int) : ((readToks lb most).2 = 0 → (∀ t ∈ (readToks lb most).1, MayTk t) ∧ sizeT (readToks lb most).1 ≤ most) ∧ ((readToks lb most).2 ≠ 0 → (readToks lb most).1 = []) := by
  unfold readToks
  split
  · exact ⟨fun e => (by cases e), fun _ => rfl⟩
  · rename_i h0
    split
    · rename_i h1
      exact ⟨fun e => absurd e h1, fun _ => rfl⟩
    · rename_i h1
      split
      · rename_i h2
        exact ⟨fun e => absurd e h2, fun _ => rfl⟩
      · rename_i h2
        have k1 := readGo_ok (bs := rbits lb) (n := 265) 266 [] false 0 (by simp) (by simp) (Decidable.not_not.1 h1)
        have k2 := readGo_ok (bs := rbits lb) (n := 12) 13 [] false (readGo (rbits lb) 265 266 [] false 0).2.2 (by simp) (by simp) (Decidable.not_not.1 h2)
        exact toksGo_may (by rw [k1.2]; omega) (by rw [k2.2]; omega) (rbits lb) most (by omega) _ most [] _ (by omega) (by simp [sizeT]) (fun t ht => (by cases ht)) _ _ rfl
end Go.Proofs.YtmgjgkdbagbleaaGreatDoor.Huff
namespace Go.Proofs.YtmgjgkdbagbleaaGreatDoor.Huff
open Go.RowKit Go.Proofs.YtmgjgkdbagbleaaGreatDoor.Mem Go.Proofs.YtmgjgkdbagbleaaGreatDoor.Canon Go.Proofs.YtmgjgkdbagbleaaGreatDoor.Own
open Go.Proofs.YtmgjgkdbagbleaaGreatDoor.Toks (Tk Pc joinT joinE pw mayB)
def TRPost (R : List Tk × Int) (w : World) (e : Ending) (w' : World) : Prop :=
  ∃ v, e = .returned (.tuple #[v, .int .i64 R.2]) ∧ w'.ownsRow w.heap.size 235 3 v R.1.length (tksL R.1) ∧ Below w.heap.size w w'
theorem padE_two (bs : List Bool) (at_ : Nat) : padE bs at_ = 0 ∨ padE bs at_ = 2 := by
  unfold padE; split <;> simp
theorem toksGo_err {ls lf : List Nat} {bs : List Bool} {f at_ : Nat} {M : Int} {out : List Tk} {T : Tk × Bool × Int × Nat} (h : tokenR ls lf bs at_ = T) (he : T.2.2.1 ≠ 0) : toksGo ls lf bs (f + 1) M out at_ = ([], T.2.2.1) := by
  rw [toksGo, h, if_pos he]
theorem toksGo_end {ls lf : List Nat} {bs : List Bool} {f at_ : Nat} {M : Int} {out : List Tk} {T : Tk × Bool × Int × Nat} (h : tokenR ls lf bs at_ = T) (he : T.2.2.1 = 0) (hm : T.2.1 = false) : toksGo ls lf bs (f + 1) M out at_ = if padE bs T.2.2.2 = 0 then (out, 0) else ([], 2) := by
  rw [toksGo, h, if_neg (by rw [he]; simp), if_pos hm]
theorem toksGo_limit {ls lf : List Nat} {bs : List Bool} {f at_ : Nat} {M : Int} {out : List Tk} {T : Tk × Bool × Int × Nat} (h : tokenR ls lf bs at_ = T) (he : T.2.2.1 = 0) (hm : T.2.1 = true) (hl : M - max 1 T.1.len < 0) : toksGo ls lf bs (f + 1) M out at_ = ([], 6) := by
  rw [toksGo, h, if_neg (by rw [he]; simp), if_neg (by rw [hm]; simp), if_pos hl]
theorem toksGo_next {ls lf : List Nat} {bs : List Bool} {f at_ : Nat} {M : Int} {out : List Tk} {T : Tk × Bool × Int × Nat} (h : tokenR ls lf bs at_ = T) (he : T.2.2.1 = 0) (hm : T.2.1 = true) (hl : ¬ M - max 1 T.1.len < 0) : toksGo ls lf bs (f + 1) M out at_ = toksGo ls lf bs f (M - max 1 T.1.len) (out ++ [T.1]) T.2.2.2 := by
  rw [toksGo, h, if_neg (by rw [he]; simp), if_neg (by rw [hm]; simp), if_neg hl]
set_option maxHeartbeats 2000000 in
set_option maxRecDepth 100000 in
theorem tread_any (w : World) (A : Option Addr) (n c : Nat) (lb : List Nat) (most : Int) (hm0 : 0 ≤ most) (hm1 : most ≤ 9223372036854775807) (hn : lb.length = n) (hN : n ≤ 100000) (h8 : ∀ x ∈ lb, x ≤ 255) (hnil : A = none → n = 0 ∧ c = 0) (ha : Row w w.heap.size A n 1 (numF .u8 lb)) :
    Calls Tryz.prog 294 #[.slice A n c, .int .i64 most] w (TRPost (readToks lb most) w) := by
  obtain ⟨j0, hj0, hy0, hy1, hy2⟩ := info_parts info_tok3
  have C1 := Lib.hid (newreader_any w A n c lb hn hN h8 hnil ha)
  have hlb : (rbits lb).length ≤ 800000 := by rw [rbits_length, hn]; omega
  obtain ⟨RT, hRT⟩ : ∃ RT, RT = readToks lb most := ⟨_, rfl⟩
  rw [← hRT]
  unfold readToks at hRT
  rw [if_neg (by omega)] at hRT
  clear hn h8 hnil ha
  generalize rbits lb = bs at *
  have hk1 := readGo_ok (bs := bs) (n := 265) 266 [] false 0 (by simp) (by simp)
  have D1 := Lib.hid (fun wx gr g lo (h1 : lo ≤ g) h2 h3 => coder_any wx gr lo g bs 0 265 (by omega) (by omega) h1 h2 h3)
  change Hid (∀ wx gr g lo, lo ≤ g → _ → Rd wx lo g bs 0 → Calls _ _ _ _ (CodPost (readGo bs 265 266 [] false 0) lo g bs wx)) at D1
  generalize readGo bs 265 266 [] false 0 = R1 at D1 hk1 hRT
  obtain ⟨ls, e1, a1⟩ := R1
  simp only at hk1 hRT
  have hk2 := readGo_ok (bs := bs) (n := 12) 13 [] false a1 (by simp) (by simp)
  have D2 := Lib.hid (fun wx gr g lo (h1 : lo ≤ g) h2 h3 => coder_any wx gr lo g bs a1 12 (by omega) (by omega) h1 h2 h3)
  change Hid (∀ wx gr g lo, lo ≤ g → _ → Rd wx lo g bs a1 → Calls _ _ _ _ (CodPost (readGo bs 12 13 [] false a1) lo g bs wx)) at D2
  generalize readGo bs 12 13 [] false a1 = R2 at D2 hk2 hRT
  obtain ⟨lf, e2, a2⟩ := R2
  simp only at hk2 hRT
  have HRT := Lib.hid hRT
  have HK1 := Lib.hid hk1
  have HK2 := Lib.hid hk2
  clear hRT hk1 hk2
  go_enter Tryz.func294, Tryz.ntmps294
  go_wp2_with fail
  refine C1.out.mono ?_
  rintro e w1 ⟨g, rfl, hR1, hg, hb1⟩
  have z1 := hb1.size
  have hgl := hR1.lt
  go_wp2_with fail
  have hbel2 : Below w1.heap.size w1 (w1.alloc (.cells #[.pointer (some ⟨g, 0, none⟩), .pointer none, .pointer none] 372)) := bel_alloc0 (Below.refl _ _)
  have blk2 : Blk (w1.alloc (.cells #[.pointer (some ⟨g, 0, none⟩), .pointer none, .pointer none] 372)) w1.heap.size 372 #[.pointer (some ⟨g, 0, none⟩), .pointer none, .pointer none] := Blk.made _ _ _
  generalize w1.alloc (.cells #[.pointer (some ⟨g, 0, none⟩), .pointer none, .pointer none] 372) = w2 at *
  have hR2 : Rd w2 w.heap.size g bs 0 := hR1.keep (fun b _ h => hbel2.block b (by omega)) hg
  have z2 := blk2.lt
  have hbw2 : Below w.heap.size w w2 := hb1.trans (hbel2.mono z1)
  refine (D1.out w2 w1.heap.size g w.heap.size hg (blk2.cell 0) hR2).mono ?_
  rintro e w3 ⟨hpost, hR3, hk3⟩
  simp only at hpost hR3
  have z3 := hk3.size
  have blk3 : Blk w3 w1.heap.size _ _ := (hk3.block w1.heap.size ⟨by omega, by omega⟩).trans blk2
  have p0 := blk3.cell 0
  have p1 := blk3.cell 1
  have p2 := blk3.cell 2
  have f1 := blk3.frozen 1
  have f2 := blk3.frozen 2
  simp only [List.getElem?_toArray, List.getElem?_cons_zero, List.getElem?_cons_succ] at p0 p1 p2
  have HB2 := Lib.hid hbw2
  have HK3 := Lib.hid hk3
  have HBLK3 := Lib.hid blk3
  have HR3 := Lib.hid hR3
  clear hR1 hR2 hb1 hbel2 blk2 hbw2 hk3 blk3 hR3 C1 D1
  rcases hpost with ⟨he1, rfl⟩ | ⟨he1, gs, rfl, hCs⟩
  · have hb : (e1 != 0) = true := bne_iff_ne.mpr he1
    have HRT2 : Hid (RT = ([], e1)) := by show _ = _; rw [HRT.out, if_pos he1]
    clear he1 HRT
    go_wp2_with fail
    go_ret2
    rw [HRT2.out]
    exact ⟨_, rfl, World.ownsRow_nil _ _ _ _, bel_set (p := ⟨w1.heap.size, 1, none⟩) z1 (HB2.out.trans (HK3.out.below (fun b h => ⟨by omega, by omega⟩)))⟩
  · subst he1
    obtain ⟨hok1, hl1⟩ := HK1.out rfl
    have HCs := Lib.hid hCs
    have HOK1 := Lib.hid hok1
    have HL1 := Lib.hid hl1
    clear hCs hok1 hl1 HK1
    go_wp2_with fail
    have blk4 := HBLK3.out.set 1 (.pointer (some ⟨gs, 0, none⟩))
    have hk34 : Kept (fun x => x < w1.heap.size ∨ w1.heap.size < x) w3 (w3.setCell ⟨w1.heap.size, 1, none⟩ (.pointer (some ⟨gs, 0, none⟩))) := (Kept.refl _ _).set (fun h => by have h : w1.heap.size < w1.heap.size ∨ w1.heap.size < w1.heap.size := h; omega) _
    have z34 := hk34.size
    generalize w3.setCell ⟨w1.heap.size, 1, none⟩ (.pointer (some ⟨gs, 0, none⟩)) = w4 at *
    have hR4 : Rd w4 w.heap.size g bs a1 := HR3.out.keep (fun b h1 h2 => hk34.block b (by left; omega)) hg
    have HCs4 : Hid (Coder w4 w2.heap.size w3.heap.size gs ls) := HCs.out.keep (fun b h1 h2 => hk34.block b (by right; omega))
    have HB4 : Hid (Below w.heap.size w w4) := (HB2.out.trans (HK3.out.below (fun b h => ⟨by omega, by omega⟩))).trans (hk34.below (fun b h => by left; omega))
    clear p0 p1 p2 f1 f2 HBLK3 HR3 HCs HB2 HK3
    refine (D2.out w4 w1.heap.size g w.heap.size hg (blk4.cell 0) hR4).mono ?_
    rintro e w5 ⟨hpost, hR5, hk5⟩
    simp only at hpost hR5
    have z5 := hk5.size
    have blk5 : Blk w5 w1.heap.size _ _ := (hk5.block w1.heap.size ⟨by omega, by omega⟩).trans blk4
    have p0 := blk5.cell 0
    have p1 := blk5.cell 1
    have p2 := blk5.cell 2
    have f2 := blk5.frozen 2
    simp at p0 p1 p2
    have HB5 : Hid (Below w.heap.size w w5) := HB4.out.trans (hk5.below (fun b h => ⟨by omega, by omega⟩))
    have HCs5 : Hid (Coder w5 w2.heap.size w3.heap.size gs ls) := HCs4.out.kept hk5 (fun b h1 h2 => ⟨by omega, by omega⟩)
    have HBLK5 := Lib.hid blk5
    have HR5 := Lib.hid hR5
    clear hR4 hk34 blk4 hR5 blk5 hk5 HB4 HCs4 D2
    rcases hpost with ⟨he2, rfl⟩ | ⟨he2, gf, rfl, hCf⟩
    · have hb : (e2 != 0) = true := bne_iff_ne.mpr he2
      have HRT2 : Hid (RT = ([], e2)) := by show _ = _; rw [HRT.out, if_neg (by simp), if_pos he2]
      clear he2 HRT
      go_wp2_with fail
      go_ret2
      rw [HRT2.out]
      exact ⟨_, rfl, World.ownsRow_nil _ _ _ _, bel_set (p := ⟨w1.heap.size, 2, none⟩) z1 HB5.out⟩
    · subst he2
      obtain ⟨hok2, hl2⟩ := HK2.out rfl
      have HCf := Lib.hid hCf
      have HOK2 := Lib.hid hok2
      have HL2 := Lib.hid hl2
      have HRT2 : Hid (RT = toksGo ls lf bs (bs.length + 1) most [] a2) := by show _ = _; rw [HRT.out, if_neg (by simp), if_neg (by simp)]
      clear hCf hok2 hl2 HK2 HRT
      have hat0 : a2 ≤ bs.length := by
        obtain ⟨A', n', c', l', h1, h2, h3, h4, h5, h6, h7⟩ := HR5.out
        rw [h5, rbits_length, h3]; exact h6
      go_wp2_with fail
      have blk6 := HBLK5.out.set 2 (.pointer (some ⟨gf, 0, none⟩))
      have hk56 : Kept (fun x => x < w1.heap.size ∨ w1.heap.size < x) w5 (w5.setCell ⟨w1.heap.size, 2, none⟩ (.pointer (some ⟨gf, 0, none⟩))) := (Kept.refl _ _).set (fun h => by have h : w1.heap.size < w1.heap.size ∨ w1.heap.size < w1.heap.size := h; omega) _
      have z56 := hk56.size
      generalize w5.setCell ⟨w1.heap.size, 2, none⟩ (.pointer (some ⟨gf, 0, none⟩)) = w6 at *
      have HR6 : Hid (Rd w6 w.heap.size g bs a2) := HR5.out.keep (fun b h1 h2 => hk56.block b (by left; omega)) hg
      have HCs6 : Hid (Coder w6 w2.heap.size w6.heap.size gs ls) := Coder.mono (HCs5.out.keep (fun b h1 h2 => hk56.block b (by right; omega))) (Nat.le_refl _) (by omega)
      have HCf6 : Hid (Coder w6 w2.heap.size w6.heap.size gf lf) := Coder.mono (HCf.out.keep (fun b h1 h2 => hk56.block b (by right; omega))) (by omega) (by omega)
      have HB6 : Hid (Below w.heap.size w w6) := HB5.out.trans (hk56.below (fun b h => by left; omega))
      have z6 : w1.heap.size < w2.heap.size ∧ w2.heap.size ≤ w6.heap.size := by omega
      have HBLK6 := Lib.hid blk6
      clear p0 p1 p2 f2 HBLK5 HR5 HCs5 HCf HB5 hk56 blk6 z56 z34 z5 z3
      generalize w1.heap.size = gr at *
      generalize w2.heap.size = clo at *
      go_wp2_with fail
      go_loopw [1, 4] (fun m u wr => ∃ (f at_ k : Nat) (M : Int) (out : List Tk), (0 ≤ M ∧ M ≤ 9223372036854775807) ∧ m = .int .i64 M ∧ k ≤ at_ ∧ at_ ≤ bs.length ∧ Hid (out.length = k) ∧ wr.ownsRow w6.heap.size 235 3 u k (tksL out) ∧ Hid (bs.length + 1 ≤ f + at_) ∧ Hid (toksGo ls lf bs f M out at_ = RT) ∧ Hid (Rd wr w.heap.size g bs at_) ∧ Hid (Kept (fun x => x < w6.heap.size ∧ x ≠ g) w6 wr)) (fun m _ _ => (intOf m).toNat)
      case atStart => exact ⟨bs.length + 1, a2, 0, most, [], ⟨hm0, hm1⟩, rfl, by omega, hat0, rfl, World.ownsRow_nil _ _ _ _, by show _ ≤ _; omega, HRT2.out.symm, HR6.out, Kept.refl _ _⟩
      case round =>
        clear HR6 HRT2
        obtain ⟨f, at_, k, M, out, ⟨hM0, hM1⟩, rfl, hka, hat, hlen, hown, hf, hgo, hRd, hkp⟩ := hrel
        obtain ⟨f, rfl⟩ : ∃ f', f = f' + 1 := ⟨f - 1, by have := hf.out; omega⟩
        have hkz := hkp.out.size
        have blkr : Blk wr gr _ _ := (hkp.out.block gr ⟨by omega, by omega⟩).trans HBLK6.out
        have C3 := token_any wr gr w.heap.size g clo w6.heap.size gs gf ls lf bs at_ hg (blkr.cell 0) (blkr.cell 1) (blkr.cell 2) (by omega) (by omega) HOK1.out (by rw [HL1.out]; omega) (HCs6.out.kept hkp.out (fun b h1 h2 => ⟨by omega, by omega⟩)) HOK2.out (by rw [HL2.out]; omega) (HCf6.out.kept hkp.out (fun b h1 h2 => ⟨by omega, by omega⟩)) hkz (fun b h1 h2 => by omega) hRd.out
        have hmay := tokenR_may (ls := ls) (lf := lf) (by rw [HL1.out]; omega) (by rw [HL2.out]; omega) bs (at_ := at_)
        unfold TokPost at C3
        clear blkr
        have hend := fun he hm => toksGo_end (T := tokenR ls lf bs at_) (bs := bs) (f := f) (M := M) (out := out) rfl he hm
        have herr := fun he => toksGo_err (T := tokenR ls lf bs at_) (bs := bs) (f := f) (M := M) (out := out) rfl he
        have hlim := fun he hm hl => toksGo_limit (T := tokenR ls lf bs at_) (bs := bs) (f := f) (M := M) (out := out) rfl he hm hl
        have hnext := fun he hm hl => toksGo_next (T := tokenR ls lf bs at_) (bs := bs) (f := f) (M := M) (out := out) rfl he hm hl
        generalize tokenR ls lf bs at_ = T at *
        obtain ⟨⟨lit, len, dist⟩, more, te, ta⟩ := T
        simp only [Toks.Tk.val] at C3 hmay hend herr hlim hnext
        have C3 := Lib.hid C3
        by_cases he : te = 0
        · subst he
          clear herr
          obtain ⟨hmay, hadv⟩ := hmay rfl
          cases more
          · have hg1 := hend rfl rfl
            rw [hgo.out] at hg1
            have HG1 := Lib.hid hg1
            clear hend hlim hnext hg1 hgo hmay
            go_wp2_with fail
            refine C3.out.mono ?_
            rintro e w7 ⟨rfl, hRd7, hk7⟩
            have z7 := hk7.size
            have hK7 : Kept (fun x => x < w6.heap.size ∧ x ≠ g) w6 w7 := hkp.out.trans ⟨hk7.os, hk7.tape, hk7.output, hk7.size, fun b h => hk7.block b ⟨by have := h.1; omega, h.2⟩⟩
            have HB7 : Hid (Below w.heap.size w w7) := HB6.out.trans (hK7.below (fun b h => ⟨by omega, by omega⟩))
            have blk7 : Blk w7 gr _ _ := (hK7.block gr ⟨by omega, by omega⟩).trans HBLK6.out
            have hown7 : w7.ownsRow w6.heap.size 235 3 _ k (tksL out) := own_kept hown (fun x hx => hk7.block x (by have := World.ownsRow.lt hown x hx; exact ⟨this.2, by omega⟩))
            have z7r := blk7.lt
            have p0 := blk7.cell 0
            simp at p0
            go_wp2_with fail
            have HB8 : Hid (Below w.heap.size w (w7.alloc (.cells #[.int .u8 lit, .int .i64 len, .int .i64 dist] 235))) := bel_alloc (by omega) HB7.out
            have own8 := hown7.alloc (.cells #[.int .u8 lit, .int .i64 len, .int .i64 dist] 235)
            have hRd8 := hRd7.keep (w' := w7.alloc (.cells #[.int .u8 lit, .int .i64 len, .int .i64 dist] 235)) (fun b _ h => Below.heap_alloc w7 _ b (by omega)) hg
            generalize w7.alloc (.cells #[.int .u8 lit, .int .i64 len, .int .i64 dist] 235) = w8 at *
            have C4 := pad_any w8 w.heap.size g bs ta hRd8
            rcases padE_two bs ta with hp | hp
            · rw [hp] at C4
              have HG2 : Hid (RT = (out, 0)) := by show _ = _; rw [HG1.out, if_pos hp]
              have C4 := Lib.hid C4
              clear hp HG1
              refine C4.out.mono ?_
              rintro e w9 ⟨rfl, q, rfl⟩
              go_wp2_with fail
              go_ret2
              rw [HG2.out]
              refine ⟨_, rfl, ?_, below_drewN HB8.out q⟩
              show World.ownsRow _ _ _ _ _ out.length _
              rw [hlen.out]
              exact own_mono own8 (by omega)
            · rw [hp] at C4
              have HG2 : Hid (RT = ([], 2)) := by show _ = _; rw [HG1.out, if_neg (by rw [hp]; decide)]
              have C4 := Lib.hid C4
              clear hp HG1
              refine C4.out.mono ?_
              rintro e w9 ⟨rfl, q, rfl⟩
              go_wp2_with fail
              go_ret2
              rw [HG2.out]
              exact ⟨_, rfl, World.ownsRow_nil _ _ _ _, below_drewN HB8.out q⟩
          · obtain ⟨hm, ⟨hi0, hi1⟩, hl0, hl1⟩ := hmay rfl
            simp only at hm hi0 hi1 hl0 hl1
            clear hend hmay
            obtain ⟨d, hd, hd1, hd2⟩ : ∃ d : Int, d = max 1 len ∧ 1 ≤ d ∧ d ≤ 257 := ⟨_, rfl, by omega, by omega⟩
            rw [← hd] at hlim hnext
            by_cases hl : M - d < 0
            · have hg1 := hlim rfl rfl hl
              rw [hgo.out] at hg1
              have HG1 := Lib.hid hg1
              clear hlim hnext hg1 hgo
              go_wp2_with fail
              refine C3.out.mono ?_
              rintro e w7 ⟨rfl, hRd7, hk7⟩
              have z7 := hk7.size
              have hK7 : Kept (fun x => x < w6.heap.size ∧ x ≠ g) w6 w7 := hkp.out.trans ⟨hk7.os, hk7.tape, hk7.output, hk7.size, fun b h => hk7.block b ⟨by have := h.1; omega, h.2⟩⟩
              have HB7 : Hid (Below w.heap.size w w7) := HB6.out.trans (hK7.below (fun b h => ⟨by omega, by omega⟩))
              have blk7 : Blk w7 gr _ _ := (hK7.block gr ⟨by omega, by omega⟩).trans HBLK6.out
              have hown7 : w7.ownsRow w6.heap.size 235 3 _ k (tksL out) := own_kept hown (fun x hx => hk7.block x (by have := World.ownsRow.lt hown x hx; exact ⟨this.2, by omega⟩))
              go_wp2_with fail
              go_ret2
              rw [HG1.out]
              exact ⟨_, rfl, World.ownsRow_nil _ _ _ _, bel_alloc (by omega) HB7.out⟩
            · have hg1 := hnext rfl rfl hl
              rw [hgo.out] at hg1
              have HG1 := Lib.hid hg1
              clear hlim hnext hg1 hgo
              go_wp2_with fail
              refine C3.out.mono ?_
              rintro e w7 ⟨rfl, hRd7, hk7⟩
              have z7 := hk7.size
              have hK7 : Kept (fun x => x < w6.heap.size ∧ x ≠ g) w6 w7 := hkp.out.trans ⟨hk7.os, hk7.tape, hk7.output, hk7.size, fun b h => hk7.block b ⟨by have := h.1; omega, h.2⟩⟩
              have HB7 : Hid (Below w.heap.size w w7) := HB6.out.trans (hK7.below (fun b h => ⟨by omega, by omega⟩))
              have blk7 : Blk w7 gr _ _ := (hK7.block gr ⟨by omega, by omega⟩).trans HBLK6.out
              have hown7 : w7.ownsRow w6.heap.size 235 3 _ k (tksL out) := own_kept hown (fun x hx => hk7.block x (by have := World.ownsRow.lt hown x hx; exact ⟨this.2, by omega⟩))
              have hka2 : k + 1 ≤ ta := by omega
              have hat2 : ta ≤ bs.length := by
                obtain ⟨A', n', c', l', h1, h2, h3, h4, h5, h6, h7⟩ := hRd7
                rw [h5, rbits_length, h3]; exact h6
              obtain ⟨va, vc, rfl⟩ := own_shape hown7
              have HO7 := Lib.hid hown7
              have HR7 := Lib.hid hRd7
              have HK7 := Lib.hid hK7
              clear hown7 hRd7 hK7 hk7 hown hkp hRd blk7
              go_wp2_with (at_builtin; refine wpList_app rfl (.tmp 57) (.tmp 59) 165 rfl w6.heap.size 235 j0 _ 3 24 Tryz.underlying165 hj0 hy0 hy1 hy2 rfl (by decide) _ _ _ (by rfl) ((HO7.out.alloc _).alloc _) _ 1 1 [.int .u8 lit, .int .i64 len, .int .i64 dist] (by rfl) (Src.of_blk (g := w7.heap.size + 1) (Blk.made_at _ _ _ (by simp)) 1 1 3 rfl) (by intro u hu; simp at hu; rcases hu with rfl | rfl | rfl <;> rfl) (by unfold maxLen; omega) (by omega) (by simp; omega) ?_; intro v4 w9 hown9 hg9 hat9)
              go_roundw
              case measure => go_light; show (M - max 1 len).toNat < M.toNat; omega
              case rel =>
                go_light
                have hkK : ∀ b, (b < w6.heap.size ∧ b ≠ g) → b < ((w7.alloc (.cells #[.int .u8 lit, .int .i64 len, .int .i64 dist] 235)).alloc (.cells #[.int .u8 lit, .int .i64 len, .int .i64 dist] 235)).heap.size := by intro b h; have := h.1; simp; omega
                refine ⟨f, ta, k + 1, M - d, out ++ [⟨lit, len, dist⟩], ⟨hl, by omega⟩, by rw [hd], hka2, hat2, ?_, ?_, ?_, Lib.hid HG1.out.symm, ?_, ?_⟩
                · show (out ++ [_]).length = k + 1; rw [List.length_append, hlen.out]; rfl
                · rw [tksL_snoc]; exact hown9
                · show _ ≤ _; have := hf.out; omega
                · exact HR7.out.keep (fun b _ h2 => (hg9.block b (by simp; omega) (fun h => by have := (World.ownsRow.lt HO7.out b h.symm).1; omega)).trans ((Below.heap_alloc _ _ b (by simp; omega)).trans (Below.heap_alloc w7 _ b (by omega)))) hg
                · exact ((HK7.out.alloc (fun b h => by have := h.1; omega) _).alloc (fun b h => by have := h.1; simp; omega) _).grown hg9 hkK (fun b hb hh => by have := (World.ownsRow.lt HO7.out b hb).1; have := hh.1; omega)
        · have hb : (te != 0) = true := bne_iff_ne.mpr he
          have hg1 := herr he
          rw [hgo.out] at hg1
          have HG1 := Lib.hid hg1
          clear hend hlim hnext hg1 hgo hmay he herr
          go_wp2_with fail
          refine C3.out.mono ?_
          rintro e w7 ⟨rfl, hRd7, hk7⟩
          have z7 := hk7.size
          have hK7 : Kept (fun x => x < w6.heap.size ∧ x ≠ g) w6 w7 := hkp.out.trans ⟨hk7.os, hk7.tape, hk7.output, hk7.size, fun b h => hk7.block b ⟨by have := h.1; omega, h.2⟩⟩
          have HB7 : Hid (Below w.heap.size w w7) := HB6.out.trans (hK7.below (fun b h => ⟨by omega, by omega⟩))
          have blk7 : Blk w7 gr _ _ := (hK7.block gr ⟨by omega, by omega⟩).trans HBLK6.out
          have hown7 : w7.ownsRow w6.heap.size 235 3 _ k (tksL out) := own_kept hown (fun x hx => hk7.block x (by have := World.ownsRow.lt hown x hx; exact ⟨this.2, by omega⟩))
          go_wp2_with fail
          go_ret2
          rw [HG1.out]
          exact ⟨_, rfl, World.ownsRow_nil _ _ _ _, bel_alloc (by omega) HB7.out⟩
end Go.Proofs.YtmgjgkdbagbleaaGreatDoor.Huff
