/-
  The walk of the reference's New coder.
-/
import Derived.Test.YtidclmmnfienlaaGreatDoorCoderC
import Derived.Test.YtidclmmnfienlaaGreatDoorCanonCR
import Derived.Test.YtidclmmnfienlaaGreatDoorOwnBase
namespace Go.Proofs.YtidclmmnfienlaaGreatDoor.Huff
open Go.RowKit Go.Proofs.YtidclmmnfienlaaGreatDoor.Mem Go.Proofs.YtidclmmnfienlaaGreatDoor.Canon Go.Proofs.YtidclmmnfienlaaGreatDoor.Own

/-- The reference's coder: two slices whose blocks lie from lo on, below B. -/
structure RCo (w : World) (lo B : Nat) (vl vc : Value) (ls : List Nat) : Prop where
  lens : ∃ A c, vl = .slice A ls.length c ∧ RowIn w lo B A ls.length 1 (numF .u8 ls)
  codes : ∃ A c, vc = .slice A ls.length c ∧ RowIn w lo B A ls.length 1 (fun i _ => .int .u16 (codeW ls i : Nat))
theorem RCo.kept {K : Nat → Prop} {w w' : World} {lo B : Nat} {vl vc : Value} {ls : List Nat} (h : RCo w lo B vl vc ls) (hk : Kept K w w') (hK : ∀ k, lo ≤ k → k < B → K k) : RCo w' lo B vl vc ls := by
  have hc : ∀ p : Addr, lo ≤ p.block → p.block < B → w'.cell? p = w.cell? p := fun p h1 h2 => World.cell?_of_block (hk.block p.block (hK _ h1 h2))
  obtain ⟨A, c, e, hr⟩ := h.lens
  obtain ⟨A', c', e', hr'⟩ := h.codes
  exact ⟨⟨A, c, e, hr.keep hc⟩, ⟨A', c', e', hr'.keep hc⟩⟩
theorem RCo.mono {w : World} {lo lo' B B' : Nat} {vl vc : Value} {ls : List Nat} (h : RCo w lo B vl vc ls) (hl : lo' ≤ lo) (hB : B ≤ B') : RCo w lo' B' vl vc ls := by
  obtain ⟨A, c, e, hr⟩ := h.lens
  obtain ⟨A', c', e', hr'⟩ := h.codes
  exact ⟨⟨A, c, e, hr.mono hl hB⟩, ⟨A', c', e', hr'.mono hl hB⟩⟩

def RNewPost (ls : List Nat) (w : World) (e : Ending) (w' : World) : Prop :=
  ∃ vl vc, e = .returned (.tuple #[.agg #[vl, vc], .int .i64 0]) ∧ RCo w' w.heap.size w'.heap.size vl vc ls ∧ Below w.heap.size w w'

theorem info_rcoder : (Tryz.prog.info? 122).map (·.size) = some 2 := by kernel_rfl

set_option maxRecDepth 100000 in
theorem rnew_bad (w : World) (A : Option Addr) (n c : Nat) (ls : List Nat) (hn : ls.length = n) (hN : n ≤ 9223372036854775807) (hok : okB ls = false) (ha : Row w w.heap.size A n 1 (numF .u8 ls)) :
    Calls Tryz.prog 81 #[.slice A n c] w fun e w' => e = .returned (.tuple #[.agg #[.slice none 0 0, .slice none 0 0], .int .i64 7]) ∧ Below w.heap.size w w' := by
  have C := Lib.hid (fun wx (h : Row wx wx.heap.size A n 1 (numF .u8 ls)) => refcodes_bad wx A n c ls hn hN hok h)
  clear hn hok
  go_enter Tryz.func81, Tryz.ntmps81
  go_wp2_with fail
  refine (C.out _ ((ha.alloc (Nat.le_refl _) _).mono (by simp))).mono ?_
  rintro e w1 ⟨rfl, rfl⟩
  go_wp2_with fail
  exact bodyPost_ret (Canon.results_cell_tmp rfl _ _ w.heap.size _ _ _ (.int .i64 7) rfl rfl (Blk.made _ _ _) Tryz.underlying122 rfl info_rcoder) rfl ⟨rfl, bel_alloc0 (Below.refl _ _)⟩
set_option maxRecDepth 100000 in
theorem rnew_any (w : World) (A : Option Addr) (n c : Nat) (ls : List Nat) (hn : ls.length = n) (hok : okB ls = true) (hnil : A = none → n = 0 ∧ c = 0) (ha : Row w w.heap.size A n 1 (numF .u8 ls)) :
    Calls Tryz.prog 81 #[.slice A n c] w (RNewPost ls w) := by
  obtain ⟨j0, hj0, hy0, hy1, hy2⟩ := info_parts info_u8
  obtain ⟨hlen, _, _⟩ := ok_parts hok
  rw [hn] at hlen
  have C := Lib.hid (fun wx (h : Row wx wx.heap.size A n 1 (numF .u8 ls)) => refcodes_any wx A n c ls hn hok h)
  have HN := Lib.hid hn
  have HNIL := Lib.hid hnil
  clear hn hok hnil
  go_enter Tryz.func81, Tryz.ntmps81
  go_wp2_with fail
  refine (C.out _ ((ha.alloc (Nat.le_refl _) _).mono (by simp))).mono ?_
  rintro e w1 ⟨vc, rfl, hown, hb1⟩
  obtain ⟨AC, cC, rfl⟩ := own_shape hown
  have z1 := hb1.size
  simp at z1
  have blk1 : Blk w1 w.heap.size 122 _ := (Blk.made w _ _).step hb1
  have hgl := blk1.lt
  have hbel1 : Below w.heap.size w w1 := (bel_alloc0 (Below.refl _ _)).trans (hb1.mono (by simp))
  have hsrc0 := src_num (c := c) (ha.below hbel1) HN.out HNIL.out
  have hsrc : Src (w1.alloc (.cells #[] 5)) A n c 1 (numL .u8 ls) := by
    refine ⟨hsrc0.1, ?_⟩
    rcases hsrc0.2 with h | ⟨ad, h1, h2⟩
    · exact .inl h
    · refine .inr ⟨ad, h1, fun j u hu => ?_⟩
      have hc := h2 j u hu
      exact (World.cell?_of_block (Below.heap_alloc w1 _ _ (World.block_lt_of_cell? _ _ hc))).trans hc
  have hown0 : (w1.alloc (.cells #[] 5)).ownsRow w1.heap.size 5 1 (.slice (some ⟨w1.heap.size, 0, none⟩) 0 0) 0 [] := World.ownsRow_made w1 #[] 0 (Nat.le_refl _) (by unfold maxLen; omega) rfl
  have c0 := blk1.cell 0
  have c1 := blk1.cell 1
  have f0 := blk1.frozen 0
  have f1 := blk1.frozen 1
  simp only [List.getElem?_toArray, List.getElem?_cons_zero, List.getElem?_cons_succ] at c0 c1
  have HSRC := Lib.hid hsrc
  have HB := Lib.hid hbel1
  have HOC := Lib.hid hown
  clear hsrc0 hsrc hbel1 ha C hb1 hown
  go_wp2_with (at_builtin; refine wpList_app rfl (.tmp 15) (.tmp 16) 29 rfl w1.heap.size 5 j0 _ 1 1 Tryz.underlying29 hj0 hy0 hy1 hy2 rfl (by decide) _ _ _ (by rfl) hown0 _ n _ (numL .u8 ls) (by rfl) HSRC.out (numL_one _ _) (by unfold maxLen; omega) (by omega) (by simp) ?_; intro v3 w3 hown3 hg3 hat3; obtain ⟨A3, c3, rfl⟩ := own_shape hown3; have gb := (hg3.block w.heap.size (by simp; omega) (by simp [Value.ownBlock]; omega)).trans (Below.heap_alloc w1 _ _ hgl); have p0 := (World.cell?_of_block (a := ⟨w.heap.size, 0, none⟩) gb).trans c0; have p1 := (World.cell?_of_block (a := ⟨w.heap.size, 1, none⟩) gb).trans c1; have q0 := (World.frozen?_of_block (a := ⟨w.heap.size, 0, none⟩) gb).trans f0; have q1 := (World.frozen?_of_block (a := ⟨w.heap.size, 1, none⟩) gb).trans f1)
  rw [Nat.zero_add, List.nil_append] at hown3
  have blk3 : Blk w3 w.heap.size _ _ := gb.trans blk1
  have bel3 : Below w1.heap.size w1 w3 := (bel_alloc0 (Below.refl _ _)).grown hg3 (by simp) (fun k hk => by simp [Value.ownBlock] at hk; omega)
  have z3 := bel3.size
  refine bodyPost_ret (Canon.results_cell_tmp rfl _ _ w.heap.size _ #[.slice A3 n c3, .slice AC n cC] _ (.int .i64 0) rfl rfl ((blk3.set 0 (.slice A3 n c3)).set 1 (.slice AC n cC)) Tryz.underlying122 rfl info_rcoder) rfl ⟨_, _, rfl, ⟨⟨A3, c3, by rw [HN.out], ?_⟩, ⟨AC, cC, by rw [HN.out], ?_⟩⟩, ?_⟩
  · have h := RowIn.of_own (f := numF .u8 ls) (s := 1) hown3 rfl (fun i j hi hj => by have e0 : j = 0 := (by omega); subst e0; exact numL_get (by rw [HN.out]; exact hi))
    rw [HN.out]
    refine (h.keep fun p h1 _ => World.cell?_of_block ?_).mono (by omega) (by simp)
    exact (Below.heap_setCell _ _ _ _ (by simp; omega)).trans (Below.heap_setCell _ _ _ _ (by simp; omega))
  · have h := RowIn.of_own (f := fun i _ => .int .u16 (codeW ls i : Nat)) (s := 1) HOC.out rfl (fun i j hi hj => by have e0 : j = 0 := (by omega); subst e0; simp [hi])
    rw [HN.out]
    refine (h.keep fun p h1 h2 => World.cell?_of_block ?_).mono (by simp) (by simp; omega)
    simp at h1
    exact ((Below.heap_setCell _ _ _ _ (by simp; omega)).trans (Below.heap_setCell _ _ _ _ (by simp; omega))).trans (bel3.block _ h2)
  · exact bel_set (p := ⟨w.heap.size, 1, none⟩) (Nat.le_refl _) (bel_set (p := ⟨w.heap.size, 0, none⟩) (Nat.le_refl _) (HB.out.trans (bel3.mono (by omega))))
end Go.Proofs.YtidclmmnfienlaaGreatDoor.Huff
