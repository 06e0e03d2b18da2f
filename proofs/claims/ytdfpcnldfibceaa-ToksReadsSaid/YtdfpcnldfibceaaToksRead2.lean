/-
  The walk of toks' reader.token.
-/
import Derived.Test.YtdfpcnldfibceaaToksRead1
namespace Go.Proofs.Ytdfpcnldfibceaa.Huff
open Go.RowKit Go.Proofs.Ytdfpcnldfibceaa.Mem Go.Proofs.Ytdfpcnldfibceaa.Canon Go.Proofs.Ytdfpcnldfibceaa.Own
open Go.Proofs.Ytdfpcnldfibceaa.Toks (Tk Pc joinT joinE pw)

theorem results_cell_tmp2 {P : Program} {fn : Func} {p q r : Tmp} {ty : TypeId} (h : fn.results = #[.cell p ty, .tmp q, .tmp r]) (tmps : Array Value) (w : World) (g : Nat) (t : TypeId) (cs : Array Value) (d : TypeDesc) (u v : Value)
    (hp : tmps.getD p undef = .pointer (some ⟨g, 0, none⟩)) (hq : tmps.getD q undef = u) (hr : tmps.getD r undef = v) (hg : Blk w g t cs)
    (hu : P.underlying ty = some d) (hd : (match d with | .struct _ | .array _ _ => true | _ => false) = true) (hi : (P.info? ty).map (·.size) = some cs.size) :
    (results fn tmps).run P w = .ok (.tuple #[.agg cs, u, v]) w := by
  have hp' : tmps[p]?.getD undef = .pointer (some ⟨g, 0, none⟩) := by simpa using hp
  have hq' : tmps[q]?.getD undef = u := by simpa using hq
  have hr' : tmps[r]?.getD undef = v := by simpa using hr
  simp [results, h, hp', hq', hr', asAddr, run_loadVar_row w g t ty cs (0, 0) d hg hu hd hi]

/-- The next token, whether there is one, the error, the place. -/
def tokenR (ls lf : List Nat) (bs : List Bool) (at_ : Nat) : Tk × Bool × Int × Nat :=
  let G := getR ls (head bs at_) (there bs at_)
  if G.2.1 ≠ 0 then (⟨0, 0, 0⟩, false, G.2.1, at_ + G.2.2) else
  if G.1 = 256 then (⟨0, 0, 0⟩, false, 0, at_ + G.2.2) else
  if G.1 < 256 then (⟨G.1, 0, 0⟩, true, 0, at_ + G.2.2) else
  let M := matchR lf bs G.1.toNat (at_ + G.2.2)
  (M.1, decide (M.2.1 = 0), M.2.1, M.2.2)
def TokPost (R : Tk × Bool × Int × Nat) (lo g : Nat) (bs : List Bool) (w : World) (e : Ending) (w' : World) : Prop :=
  e = .returned (.tuple #[R.1.val, .bool R.2.1, .int .i64 R.2.2.1]) ∧ Rd w' lo g bs R.2.2.2 ∧ Kept (fun x => x < w.heap.size ∧ x ≠ g) w w'

set_option maxHeartbeats 1000000 in
set_option maxRecDepth 100000 in
theorem token_any (w : World) (gr lo g clo cB gs gf : Nat) (ls lf : List Nat) (bs : List Bool) (at_ : Nat) (hlo : lo ≤ g) (hc0 : w.cell? ⟨gr, 0, none⟩ = some (.pointer (some ⟨g, 0, none⟩))) (hc1 : w.cell? ⟨gr, 1, none⟩ = some (.pointer (some ⟨gs, 0, none⟩))) (hc2 : w.cell? ⟨gr, 2, none⟩ = some (.pointer (some ⟨gf, 0, none⟩))) (hgr : gr < w.heap.size) (hne : gr ≠ g)
    (hoks : okB ls = true) (hls : ls.length ≤ 265) (hCs : Coder w clo cB gs ls) (hok : okB lf = true) (hlf : lf.length ≤ 12) (hC : Coder w clo cB gf lf) (hcB : cB ≤ w.heap.size) (hcg : ∀ b, clo ≤ b → b < cB → b ≠ g) (hR : Rd w lo g bs at_) :
    Calls Try.prog 128 #[.pointer (some ⟨gr, 0, none⟩)] w (TokPost (tokenR ls lf bs at_) lo g bs w) := by
  have hgl := hR.lt
  have HR := Lib.hid hR
  have HC := Lib.hid hC
  have HCS := Lib.hid hCs
  have HOK := Lib.hid hok
  have HOKS := Lib.hid hoks
  have HCG := Lib.hid hcg
  clear hR hC hok hcg hCs hoks
  go_enter Try.func128, Try.ntmps128
  go_upto_region 1 with fail
  have hbel0 : Below w.heap.size w (w.alloc (.cells #[.int .u8 0, .int .i64 0, .int .i64 0] 35)) := bel_alloc0 (Below.refl _ _)
  have blk0 : Blk (w.alloc (.cells #[.int .u8 0, .int .i64 0, .int .i64 0] 35)) w.heap.size 35 #[.int .u8 0, .int .i64 0, .int .i64 0] := Blk.made _ _ _
  generalize w.alloc (.cells #[.int .u8 0, .int .i64 0, .int .i64 0] 35) = w0 at *
  have HR0 : Hid (Rd w0 lo g bs at_) := HR.out.keep (fun b _ h => hbel0.block b (by omega)) hlo
  have hC0 : Coder w0 clo cB gs ls := HCS.out.below hbel0 hcB
  have d0 := (hbel0.cell (p := ⟨gr, 0, none⟩) hgr).trans hc0
  have d1 := (hbel0.cell (p := ⟨gr, 1, none⟩) hgr).trans hc1
  have d2 := (hbel0.cell (p := ⟨gr, 2, none⟩) hgr).trans hc2
  have C2 := get_any w0.drew clo cB gs lo g ls bs at_ HOKS.out hC0.drew HR0.out.drew
  unfold GetPost at C2
  have hdom := getR_dom ls (head bs at_) (there bs at_)
  obtain ⟨G, hG⟩ : ∃ G, G = getR ls (head bs at_) (there bs at_) := ⟨_, rfl⟩
  rw [← hG] at C2 hdom
  obtain ⟨gv, ge, ga⟩ := G
  simp only at C2 hdom
  have C2 := Lib.hid C2
  have HGG := Lib.hid hG
  have HBLK := Lib.hid blk0
  have HB0 := Lib.hid hbel0
  have HDOM := Lib.hid hdom
  clear hG hC0 hbel0 blk0 hdom HR0
  go_region_held3 (fun wx => wx.cell? ⟨gr, 0, none⟩ = some (.pointer (some ⟨g, 0, none⟩)) ∧ wx.cell? ⟨gr, 1, none⟩ = some (.pointer (some ⟨gs, 0, none⟩))) (first | exact ⟨d0, d1⟩ | exact ⟨k0, k1⟩) (first | (go_at_call 57; (with_reducible refine C2.out.mono ?_); rintro e w2 ⟨rfl, hR2, hk2⟩; have k0 : w2.cell? ⟨gr, 0, none⟩ = some (.pointer (some ⟨g, 0, none⟩)) := (World.cell?_of_block (a := ⟨gr, 0, none⟩) (hk2.block gr hne)).trans d0; have k1 : w2.cell? ⟨gr, 1, none⟩ = some (.pointer (some ⟨gs, 0, none⟩)) := (World.cell?_of_block (a := ⟨gr, 1, none⟩) (hk2.block gr hne)).trans d1))
  have hK2 : Kept (fun x => x < w.heap.size ∧ x ≠ g) w w2 := (Kept.of_below HB0.out (fun _ h => h.1)).trans ((Kept.refl _ w0).drew.trans ⟨hk2.os, hk2.tape, hk2.output, hk2.size, fun b h => hk2.block b h.2⟩)
  have blk2 : Blk w2 w.heap.size _ _ := (hk2.block w.heap.size (by show w.heap.size ≠ g; omega)).trans HBLK.out.drew
  have k2 : w2.cell? ⟨gr, 2, none⟩ = some (.pointer (some ⟨gf, 0, none⟩)) := (World.cell?_of_block (a := ⟨gr, 2, none⟩) (hk2.block gr hne)).trans d2
  have hg2l := blk2.lt
  have a2 := blk2.cell 0
  have b2 := blk2.cell 1
  have c2 := blk2.cell 2
  have fa2 := blk2.frozen 0
  have fb2 := blk2.frozen 1
  have fc2 := blk2.frozen 2
  simp only [List.getElem?_toArray, List.getElem?_cons_zero, List.getElem?_cons_succ] at a2 b2 c2
  have HR2 := Lib.hid hR2
  have HK2 := Lib.hid hK2
  have HBLK2 := Lib.hid blk2
  clear hR2 hk2 hK2 blk2 HBLK HB0 C2 d0 d1 d2
  by_cases he : ge = 0
  · subst he
    obtain ⟨s, rfl, hs⟩ := HDOM.out rfl
    by_cases h256 : s = 256
    · subst h256
      have HG : Hid (tokenR ls lf bs at_ = (⟨0, 0, 0⟩, false, 0, at_ + ga)) := by
        show _ = _
        unfold tokenR
        rw [← HGG.out]
        rfl
      go_wp2_with fail
      exact bodyPost_ret (results_cell_tmp2 rfl _ _ w.heap.size _ #[.int .u8 0, .int .i64 0, .int .i64 0] _ (.bool false) (.int .i64 0) rfl rfl rfl (((HBLK2.out.set 0 (.int .u8 0)).set 1 (.int .i64 0)).set 2 (.int .i64 0)) Try.underlying35 rfl info_token) rfl ⟨by rw [HG.out]; rfl, by rw [HG.out]; exact HR2.out.keep (fun b _ h => (((Below.heap_setCell _ _ _ b (by show b ≠ w.heap.size; omega)).trans (Below.heap_setCell _ _ _ b (by show b ≠ w.heap.size; omega))).trans (Below.heap_setCell _ _ _ b (by show b ≠ w.heap.size; omega)))) hlo, (Kept.set (p := ⟨w.heap.size, 2, none⟩) (Kept.set (p := ⟨w.heap.size, 1, none⟩) (Kept.set (p := ⟨w.heap.size, 0, none⟩) HK2.out (fun h => absurd h.1 (Nat.lt_irrefl _)) _) (fun h => absurd h.1 (Nat.lt_irrefl _)) _) (fun h => absurd h.1 (Nat.lt_irrefl _)) _)⟩
    · have hsb : ((s : Int) == 256) = false := by simp; omega
      by_cases hlt : s < 256
      · have HG : Hid (tokenR ls lf bs at_ = (⟨s, 0, 0⟩, true, 0, at_ + ga)) := by
          show _ = _
          unfold tokenR
          rw [← HGG.out]
          simp only
          rw [if_neg (by omega), if_neg (by omega), if_pos (by omega)]
        clear h256
        go_wp2_with fail
        exact bodyPost_ret (results_cell_tmp2 rfl _ _ w.heap.size _ #[.int .u8 (s : Nat), .int .i64 0, .int .i64 0] _ (.bool true) (.int .i64 0) rfl rfl rfl (((HBLK2.out.set 0 (.int .u8 (s : Nat))).set 1 (.int .i64 0)).set 2 (.int .i64 0)) Try.underlying35 rfl info_token) rfl ⟨by rw [HG.out]; rfl, by rw [HG.out]; exact HR2.out.keep (fun b _ h => (((Below.heap_setCell _ _ _ b (by show b ≠ w.heap.size; omega)).trans (Below.heap_setCell _ _ _ b (by show b ≠ w.heap.size; omega))).trans (Below.heap_setCell _ _ _ b (by show b ≠ w.heap.size; omega)))) hlo, (Kept.set (p := ⟨w.heap.size, 2, none⟩) (Kept.set (p := ⟨w.heap.size, 1, none⟩) (Kept.set (p := ⟨w.heap.size, 0, none⟩) HK2.out (fun h => absurd h.1 (Nat.lt_irrefl _)) _) (fun h => absurd h.1 (Nat.lt_irrefl _)) _) (fun h => absurd h.1 (Nat.lt_irrefl _)) _)⟩
      · have hC2 : Coder w2 clo cB gf lf := HC.out.keep (fun b h1 h2 => HK2.out.block b ⟨by omega, HCG.out b h1 h2⟩)
        have C3 := match_any w2 gr lo g clo cB gf lf bs s (at_ + ga) (by omega) (by omega) hlo k0 k2 (by omega) hne HOK.out hlf hC2 (by omega) HCG.out HR2.out
        have HG0 : Hid (tokenR ls lf bs at_ = ((matchR lf bs s (at_ + ga)).1, decide ((matchR lf bs s (at_ + ga)).2.1 = 0), (matchR lf bs s (at_ + ga)).2.1, (matchR lf bs s (at_ + ga)).2.2)) := by
          show _ = _
          unfold tokenR
          rw [← HGG.out]
          simp only
          rw [if_neg (by omega), if_neg (by omega), if_neg (by omega), Int.toNat_natCast]
        unfold MatchPost at C3
        generalize matchR lf bs s (at_ + ga) = M at *
        obtain ⟨⟨ta, tb, tc⟩, me, ma⟩ := M
        unfold Toks.Tk.val at C3
        simp only at C3 HG0
        have C3 := Lib.hid C3
        clear h256 hC2
        go_wp2_with fail
        refine C3.out.mono ?_
        rintro e w3 ⟨rfl, hR3, hk3⟩
        have blk3 : Blk w3 w.heap.size _ _ := (hk3.block w.heap.size ⟨hg2l, by omega⟩).trans HBLK2.out
        have a3 := blk3.cell 0
        have b3 := blk3.cell 1
        have c3 := blk3.cell 2
        have fa3 := blk3.frozen 0
        have fb3 := blk3.frozen 1
        have fc3 := blk3.frozen 2
        simp only [List.getElem?_toArray, List.getElem?_cons_zero, List.getElem?_cons_succ] at a3 b3 c3
        have HBLK3 := Lib.hid blk3
        have HR3 := Lib.hid hR3
        have HK3 : Hid (Kept (fun x => x < w.heap.size ∧ x ≠ g) w w3) := HK2.out.trans ⟨hk3.os, hk3.tape, hk3.output, hk3.size, fun b h => hk3.block b ⟨by have := h.1; omega, h.2⟩⟩
        clear blk3 hR3 hk3 C3 a2 b2 c2 fa2 fb2 fc2
        by_cases hme : me = 0
        · subst hme
          have HG : Hid (tokenR ls lf bs at_ = (⟨ta, tb, tc⟩, true, 0, ma)) := HG0.out
          clear HG0
          go_wp2_with fail
          exact bodyPost_ret (results_cell_tmp2 rfl _ _ w.heap.size _ #[.int .u8 ta, .int .i64 tb, .int .i64 tc] _ (.bool true) (.int .i64 0) rfl rfl rfl ((((((HBLK3.out.set 0 (.int .u8 ta)).set 1 (.int .i64 tb)).set 2 (.int .i64 tc)).set 0 (.int .u8 ta)).set 1 (.int .i64 tb)).set 2 (.int .i64 tc)) Try.underlying35 rfl info_token) rfl ⟨by rw [HG.out]; rfl, by rw [HG.out]; exact HR3.out.keep (fun b _ h => ((((Below.heap_setCell _ _ _ b (by show b ≠ w.heap.size; omega)).trans (Below.heap_setCell _ _ _ b (by show b ≠ w.heap.size; omega))).trans (Below.heap_setCell _ _ _ b (by show b ≠ w.heap.size; omega))).trans (((Below.heap_setCell _ _ _ b (by show b ≠ w.heap.size; omega)).trans (Below.heap_setCell _ _ _ b (by show b ≠ w.heap.size; omega))).trans (Below.heap_setCell _ _ _ b (by show b ≠ w.heap.size; omega))))) hlo, (Kept.set (p := ⟨w.heap.size, 2, none⟩) (Kept.set (p := ⟨w.heap.size, 1, none⟩) (Kept.set (p := ⟨w.heap.size, 0, none⟩) (Kept.set (p := ⟨w.heap.size, 2, none⟩) (Kept.set (p := ⟨w.heap.size, 1, none⟩) (Kept.set (p := ⟨w.heap.size, 0, none⟩) HK3.out (fun h => absurd h.1 (Nat.lt_irrefl _)) _) (fun h => absurd h.1 (Nat.lt_irrefl _)) _) (fun h => absurd h.1 (Nat.lt_irrefl _)) _) (fun h => absurd h.1 (Nat.lt_irrefl _)) _) (fun h => absurd h.1 (Nat.lt_irrefl _)) _) (fun h => absurd h.1 (Nat.lt_irrefl _)) _)⟩
        · have hmb : (me == 0) = false := by simp [hme]
          have HG : Hid (tokenR ls lf bs at_ = (⟨ta, tb, tc⟩, false, me, ma)) := by
            show _ = _
            rw [HG0.out, decide_eq_false hme]
          clear HG0 hme
          go_wp2_with fail
          exact bodyPost_ret (results_cell_tmp2 rfl _ _ w.heap.size _ #[.int .u8 ta, .int .i64 tb, .int .i64 tc] _ (.bool false) (.int .i64 me) rfl rfl rfl ((((((HBLK3.out.set 0 (.int .u8 ta)).set 1 (.int .i64 tb)).set 2 (.int .i64 tc)).set 0 (.int .u8 ta)).set 1 (.int .i64 tb)).set 2 (.int .i64 tc)) Try.underlying35 rfl info_token) rfl ⟨by rw [HG.out]; rfl, by rw [HG.out]; exact HR3.out.keep (fun b _ h => ((((Below.heap_setCell _ _ _ b (by show b ≠ w.heap.size; omega)).trans (Below.heap_setCell _ _ _ b (by show b ≠ w.heap.size; omega))).trans (Below.heap_setCell _ _ _ b (by show b ≠ w.heap.size; omega))).trans (((Below.heap_setCell _ _ _ b (by show b ≠ w.heap.size; omega)).trans (Below.heap_setCell _ _ _ b (by show b ≠ w.heap.size; omega))).trans (Below.heap_setCell _ _ _ b (by show b ≠ w.heap.size; omega))))) hlo, (Kept.set (p := ⟨w.heap.size, 2, none⟩) (Kept.set (p := ⟨w.heap.size, 1, none⟩) (Kept.set (p := ⟨w.heap.size, 0, none⟩) (Kept.set (p := ⟨w.heap.size, 2, none⟩) (Kept.set (p := ⟨w.heap.size, 1, none⟩) (Kept.set (p := ⟨w.heap.size, 0, none⟩) HK3.out (fun h => absurd h.1 (Nat.lt_irrefl _)) _) (fun h => absurd h.1 (Nat.lt_irrefl _)) _) (fun h => absurd h.1 (Nat.lt_irrefl _)) _) (fun h => absurd h.1 (Nat.lt_irrefl _)) _) (fun h => absurd h.1 (Nat.lt_irrefl _)) _) (fun h => absurd h.1 (Nat.lt_irrefl _)) _)⟩
  · have hb : (ge != 0) = true := bne_iff_ne.mpr he
    have HG : Hid (tokenR ls lf bs at_ = (⟨0, 0, 0⟩, false, ge, at_ + ga)) := by
      show _ = _
      unfold tokenR
      rw [← HGG.out]
      simp only
      rw [if_pos he]
    clear he HDOM
    go_wp2_with fail
    exact bodyPost_ret (results_cell_tmp2 rfl _ _ w.heap.size _ #[.int .u8 0, .int .i64 0, .int .i64 0] _ (.bool false) (.int .i64 ge) rfl rfl rfl (((HBLK2.out.set 0 (.int .u8 0)).set 1 (.int .i64 0)).set 2 (.int .i64 0)) Try.underlying35 rfl info_token) rfl ⟨by rw [HG.out]; rfl, by rw [HG.out]; exact HR2.out.keep (fun b _ h => (((Below.heap_setCell _ _ _ b (by show b ≠ w.heap.size; omega)).trans (Below.heap_setCell _ _ _ b (by show b ≠ w.heap.size; omega))).trans (Below.heap_setCell _ _ _ b (by show b ≠ w.heap.size; omega)))) hlo, (Kept.set (p := ⟨w.heap.size, 2, none⟩) (Kept.set (p := ⟨w.heap.size, 1, none⟩) (Kept.set (p := ⟨w.heap.size, 0, none⟩) HK2.out (fun h => absurd h.1 (Nat.lt_irrefl _)) _) (fun h => absurd h.1 (Nat.lt_irrefl _)) _) (fun h => absurd h.1 (Nat.lt_irrefl _)) _)⟩
end Go.Proofs.Ytdfpcnldfibceaa.Huff
