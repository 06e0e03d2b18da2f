/-
  The walk of huff.New.
-/
import Derived.Test.YtidclmmnfienlaaDoorCoderC
import Derived.BigRegion
import Derived.Deep.RegionLaw
import Derived.Deep.AppendLies
namespace Go.Proofs.YtidclmmnfienlaaDoor.Huff
open Go.RowKit Go.Proofs.YtidclmmnfienlaaDoor.Mem Go.Proofs.YtidclmmnfienlaaDoor.Canon Go.Proofs.YtidclmmnfienlaaDoor.Own

theorem info_int : (Tryd.prog.info? 3).map (fun i => (i.zero, i.size, i.bytes)) = some (some (.int .i64 0), 1, 8) := by kernel_rfl

set_option maxRecDepth 100000 in
theorem new_bad (w : World) (A : Option Addr) (n c : Nat) (ls : List Nat) (hn : ls.length = n) (hN : n ≤ 9223372036854775807) (hok : okB ls = false) (ha : Row w w.heap.size A n 1 (numF .u8 ls)) :
    Calls Tryd.prog 50 #[.slice A n c] w fun e w' => e = .returned (.tuple #[.pointer none, .int .i64 7]) ∧ Below w.heap.size w w' := by
  have C := Lib.hid (codes_bad w A n c ls hn hN hok ha)
  clear hn hok
  go_enter Tryd.func50, Tryd.ntmps50
  go_wp2_with fail
  refine C.out.mono ?_
  rintro e w1 ⟨rfl, hb1⟩
  go_wp2_with fail
  go_ret2
  exact ⟨rfl, hb1⟩

def NewPost (ls : List Nat) (w : World) (e : Ending) (w' : World) : Prop :=
  ∃ g, e = .returned (.tuple #[.pointer (some ⟨g, 0, none⟩), .int .i64 0]) ∧ Coder w' w.heap.size w'.heap.size g ls ∧ Below w.heap.size w w'

set_option maxHeartbeats 1000000 in
set_option maxRecDepth 100000 in
theorem new_any (w : World) (A : Option Addr) (n c : Nat) (ls : List Nat) (hn : ls.length = n) (hok : okB ls = true) (hnil : A = none → n = 0 ∧ c = 0) (ha : Row w w.heap.size A n 1 (numF .u8 ls)) :
    Calls Tryd.prog 50 #[.slice A n c] w (NewPost ls w) := by
  obtain ⟨hlen, hsm, _⟩ := ok_parts hok
  rw [hn] at hlen
  have C1 := Lib.hid (codes_any w A n c ls hn hok ha)
  have C2 := Lib.hid (fun wx (h : Row wx wx.heap.size A n 1 (numF .u8 ls)) => clone_u8 wx A n c ls hn (by omega) hnil h)
  have HN := Lib.hid hn
  have HSM := Lib.hid hsm
  have HOK := Lib.hid hok
  obtain ⟨j0, hj0, hy0, hy1, hy2⟩ := info_parts info_int
  clear hn hok hsm hnil
  go_enter Tryd.func50, Tryd.ntmps50
  go_wp2_with fail
  refine C1.out.mono ?_
  rintro e w1 ⟨gc, arr, rfl, bc, hw, hgc, hb1⟩
  have z1 := hb1.size
  go_wp2_with fail
  refine (C2.out _ ((ha.below hb1).mono z1)).mono ?_
  rintro e w2 ⟨vl, rfl, hown2, hb2⟩
  have z2 := hb2.size
  have bc2 := bc.step hb2
  have hbel2 : Below w.heap.size w w2 := bel_step hb2 z1 hb1
  have HW := Lib.hid hw
  have hgc2 := bc2.lt
  have ha2 := (ha.below hbel2).mono hbel2.size
  clear hw bc C1 C2
  obtain ⟨A2, c2, rfl⟩ := own_shape hown2
  go_wp2_with fail
  go_loopw [25] (fun i wr => ∃ (k : Nat) (sv : Nat → Value) (cs : Array Value), k ≤ n ∧ i = .int .i64 k ∧ Blk wr w2.heap.size 109 cs ∧ Hid (Cells ls k (.slice A2 n c2) (.slice (some ⟨gc, 0, none⟩) n n) sv cs) ∧ Hid (Rows wr (w2.heap.size + 1) ls k sv) ∧ Below w2.heap.size w2 wr) (fun i _ => n - (intOf i).toNat)
  case atStart => exact ⟨0, _, _, by omega, rfl, Blk.made _ _ _, Cells.start ls _ _, Rows.start _ _ _, bel_alloc0 (Below.refl _ _)⟩
  case round =>
    obtain ⟨k, sv, cs, hk, rfl, blk, hC, hR, rbel⟩ := hrel
    have rz := rbel.size
    by_cases hlt : k < n
    · obtain ⟨b, off, x, rfl, hbb, hx, c0⟩ := num_cell (ha2.below rbel) HN.out hlt
      have HX := Lib.hid hx
      have hx15 := HSM.out x (List.mem_of_getElem? hx)
      have x0 : (0 : Int) ≤ (k : Int) := by omega
      have x1 : (k : Int) < (n : Int) := by omega
      clear hx
      by_cases hx0 : x = 0
      · subst hx0
        go_wp2_with fail
        go_roundw
        case rel =>
          go_light
          exact ⟨k + 1, sv, cs, by omega, by go_num, blk, hC.out.skip HX.out, hR.out.skip HX.out, rbel⟩
        case measure => go_light; simp [intOf]; omega
      · have hcn := cn_le (ls.take k) x
        rw [List.length_take] at hcn
        have xp : 0 < x := by omega
        have y0 : (0 : Int) ≤ (x : Int) := by omega
        have y1 : (x : Int) < 16 := by omega
        have m0 := blk.cell (18 + x)
        rw [hC.out.many x (by omega)] at m0
        obtain ⟨q, hq⟩ : ∃ q, q = cn (ls.take k) x := ⟨_, rfl⟩
        rw [← hq] at m0 hcn
        have HQ := Lib.hid hq
        clear hq
        by_cases hq0 : q = 0
        · have hqt : ((q : Int) == 0) = true := by simp; omega
          have HQ0 := Lib.hid hq0
          clear hq0
          have d0 := (bc2.below rbel hgc2).cell k
          rw [HW.out.2 k hlt, if_pos hlt] at d0
          have f0 := blk.frozen (2 + x)
          have f1 := blk.cell (2 + x)
          rw [hC.out.first x (by omega)] at f1
          have hcl := code_lt HOK.out HX.out hx0
          have hcl2 : code ls k < 65536 := Nat.lt_of_lt_of_le hcl (by have : 2 ^ x ≤ 2 ^ 15 := Nat.pow_le_pow_right (by omega) hx15; omega)
          have hv : codeW ls k = code ls k := Nat.mod_eq_of_lt hcl2
          have hcells := fun v => hC.out.fresh (v := v) HX.out hx0 hx15 (HQ.out.symm.trans HQ0.out)
          rw [hv] at d0
          generalize code ls k = v at *
          have HCS := Lib.hid hcells
          clear hv hcells hcl
          go_upto_region 10 with fail
          go_region
          have blkA := (blk.set (2 + x) (.int .i64 (v : Nat))).drew
          have HCS2 : Hid (∀ v', Cells ls (k + 1) (.slice A2 n c2) (.slice (some ⟨gc, 0, none⟩) n n) (upd sv x v') (((cs.setIfInBounds (2 + x) (.int .i64 (v : Nat))).setIfInBounds (18 + x) (.int .i64 ((q : Int) + 1))).setIfInBounds (34 + x) v')) := by
            rw [HQ0.out]; exact HCS.out
          clear HCS
          have mcell : (cs.setIfInBounds (2 + x) (.int .i64 (v : Nat)))[18 + x]? = some (.int .i64 ((q : Nat) : Int)) := by
            rw [Array.getElem?_setIfInBounds_ne (by omega), hC.out.many x (by omega), ← HQ.out]
          have scell : (cs.setIfInBounds (2 + x) (.int .i64 (v : Nat)))[34 + x]? = some (sv x) := by
            rw [Array.getElem?_setIfInBounds_ne (by omega), hC.out.syms x (by omega)]
          have RA := Lib.hid ((hR.out.set blk (by decide) (2 + x) (.int .i64 (v : Nat))).drew)
          have belA := (bel_set (p := ⟨w2.heap.size, 2 + x, none⟩) (u := .int .i64 (v : Nat)) (Nat.le_refl _) rbel).drew
          have zA := belA.size
          clear m0 f0 f1 d0 c0 blk rbel rz
          generalize cs.setIfInBounds (2 + x) (.int .i64 (v : Nat)) = csA at *
          generalize (wr.setCell ⟨w2.heap.size, 2 + x, none⟩ (.int .i64 (v : Nat))).drew = wA at *
          have mA := blkA.cell (18 + x)
          rw [mcell] at mA
          have fA := blkA.frozen (18 + x)
          have s1 : IntKind.i64.wrap ((q : Int) + 1) = (q : Int) + 1 := IntWalk.i64_in _ (by omega)
          go_upto_region 11 with fail
          go_region
          clear s1 mA fA
          have blkB := (blkA.set (18 + x) (.int .i64 ((q : Int) + 1))).drew
          have RB := Lib.hid ((RA.out.set blkA (by decide) (18 + x) (.int .i64 ((q : Int) + 1))).drew)
          have belB := (bel_set (p := ⟨w2.heap.size, 18 + x, none⟩) (u := .int .i64 ((q : Int) + 1)) (Nat.le_refl _) belA).drew
          have zB := belB.size
          have sB := blkB.cell (34 + x)
          rw [Array.getElem?_setIfInBounds_ne (by omega), scell] at sB
          have fB := blkB.frozen (34 + x)
          have hown := RB.out.own x (by omega)
          rw [← HQ.out] at hown
          have hne := own_blk hown blkB (by decide)
          obtain ⟨AS, cS, hsv⟩ := own_shape hown
          have HSV := Lib.hid hsv
          rw [hsv] at sB hown hne
          clear mcell scell blkA RA belA zA hsv
          generalize (wA.setCell ⟨w2.heap.size, 18 + x, none⟩ (.int .i64 ((q : Int) + 1))).drew = wB at *
          have hgl := blkB.lt
          have hne2 : some w2.heap.size ≠ (Value.slice AS q cS).ownBlock := Ne.symm hne
          go_upto_region 12 with fail
          go_region_law ((refine step_append_lies _ (by rfl) _ _ _ (by rfl) (w2.heap.size + 1) 3 j0 _ 1 8 Tryd.underlying81 hj0 hy0 hy1 hy2 rfl (by omega) (.slice AS q cS) q (numL .i64 (symsN (ls.take k) x)) (by rfl) ((hown.alloc _).drew) ⟨wB.heap.size, 0, none⟩ 1 1 [.int .i64 (k : Nat)] (by rfl) (by rfl) (World.news_of_block (cs := #[.int .i64 (k : Nat)]) (t := 3) (fr := (0, 0)) (heap_alloc_new wB _)) (by intro u hu; simp at hu; subst hu; rfl) (by omega) (by unfold maxLen; omega) (by omega) (by simp; omega) (wB.heap.size + 1) (by simp) ?_; intro g3 cap3 w3 hown3 hgrow hat hlt3; have gb : w3.heap[w2.heap.size]? = wB.heap[w2.heap.size]? := (hgrow.block w2.heap.size (by simp; omega) hne2).trans (Below.heap_alloc wB _ w2.heap.size hgl); have p3 := (World.cell?_of_block (a := ⟨w2.heap.size, 34 + x, none⟩) gb).trans sB; have p4 := (World.frozen?_of_block (a := ⟨w2.heap.size, 34 + x, none⟩) gb).trans fB))
          all_goals
            go_wp2_with fail
            go_roundw
            case measure => go_light; simp [intOf]; omega
            case rel =>
              go_light
              have blk3 : Blk w3 w2.heap.size 109 _ := gb.trans blkB
              have hR3 := Rows.push ((RB.out.alloc _).drew) HX.out hx0 hx15 HQ.out.symm hown3 (by rw [HSV.out]; exact hgrow) (by rw [HSV.out]; simpa using hat)
              refine ⟨k + 1, _, _, by omega, by go_num, blk3.set _ _, HCS2.out _, hR3.set blk3 (by decide) _ _, bel_set (p := ⟨w2.heap.size, 34 + x, none⟩) (Nat.le_refl _) (((bel_alloc zB belB).drew).grown hgrow (by simp; omega) (fun y hy => ?_))⟩
              have := (World.ownsRow.lt hown y hy).1
              omega
        · have hqf : ((q : Int) == 0) = false := by simp; omega
          have hcells := fun v => hC.out.next (v := v) HX.out hx0 hx15 HQ.out.symm hq0
          have HCS2 : Hid (∀ v', Cells ls (k + 1) (.slice A2 n c2) (.slice (some ⟨gc, 0, none⟩) n n) (upd sv x v') ((cs.setIfInBounds (18 + x) (.int .i64 ((q : Int) + 1))).setIfInBounds (34 + x) v')) := hcells
          have mcell : cs[18 + x]? = some (.int .i64 ((q : Nat) : Int)) := by rw [hC.out.many x (by omega), ← HQ.out]
          have scell := hC.out.syms x (by omega)
          have RA := hR
          have belA := rbel
          have zA := rz
          have blkA := blk
          obtain ⟨wA, rfl⟩ : ∃ wA : World, wA = wr := ⟨_, rfl⟩
          clear blk rbel rz hcells hq0
          have mA := blkA.cell (18 + x)
          rw [mcell] at mA
          have fA := blkA.frozen (18 + x)
          have s1 : IntKind.i64.wrap ((q : Int) + 1) = (q : Int) + 1 := IntWalk.i64_in _ (by omega)
          go_upto_region 11 with fail
          go_region
          clear s1 mA fA
          have blkB := (blkA.set (18 + x) (.int .i64 ((q : Int) + 1))).drew
          have RB := Lib.hid ((RA.out.set blkA (by decide) (18 + x) (.int .i64 ((q : Int) + 1))).drew)
          have belB := (bel_set (p := ⟨w2.heap.size, 18 + x, none⟩) (u := .int .i64 ((q : Int) + 1)) (Nat.le_refl _) belA).drew
          have zB := belB.size
          have sB := blkB.cell (34 + x)
          rw [Array.getElem?_setIfInBounds_ne (by omega), scell] at sB
          have fB := blkB.frozen (34 + x)
          have hown := RB.out.own x (by omega)
          rw [← HQ.out] at hown
          have hne := own_blk hown blkB (by decide)
          obtain ⟨AS, cS, hsv⟩ := own_shape hown
          have HSV := Lib.hid hsv
          rw [hsv] at sB hown hne
          clear mcell scell blkA RA belA zA hsv
          generalize (wA.setCell ⟨w2.heap.size, 18 + x, none⟩ (.int .i64 ((q : Int) + 1))).drew = wB at *
          have hgl := blkB.lt
          have hne2 : some w2.heap.size ≠ (Value.slice AS q cS).ownBlock := Ne.symm hne
          go_upto_region 12 with fail
          go_region_law ((refine step_append_lies _ (by rfl) _ _ _ (by rfl) (w2.heap.size + 1) 3 j0 _ 1 8 Tryd.underlying81 hj0 hy0 hy1 hy2 rfl (by omega) (.slice AS q cS) q (numL .i64 (symsN (ls.take k) x)) (by rfl) ((hown.alloc _).drew) ⟨wB.heap.size, 0, none⟩ 1 1 [.int .i64 (k : Nat)] (by rfl) (by rfl) (World.news_of_block (cs := #[.int .i64 (k : Nat)]) (t := 3) (fr := (0, 0)) (heap_alloc_new wB _)) (by intro u hu; simp at hu; subst hu; rfl) (by omega) (by unfold maxLen; omega) (by omega) (by simp; omega) (wB.heap.size + 1) (by simp) ?_; intro g3 cap3 w3 hown3 hgrow hat hlt3; have gb : w3.heap[w2.heap.size]? = wB.heap[w2.heap.size]? := (hgrow.block w2.heap.size (by simp; omega) hne2).trans (Below.heap_alloc wB _ w2.heap.size hgl); have p3 := (World.cell?_of_block (a := ⟨w2.heap.size, 34 + x, none⟩) gb).trans sB; have p4 := (World.frozen?_of_block (a := ⟨w2.heap.size, 34 + x, none⟩) gb).trans fB))
          all_goals
            go_wp2_with fail
            go_roundw
            case measure => go_light; simp [intOf]; omega
            case rel =>
              go_light
              have blk3 : Blk w3 w2.heap.size 109 _ := gb.trans blkB
              have hR3 := Rows.push ((RB.out.alloc _).drew) HX.out hx0 hx15 HQ.out.symm hown3 (by rw [HSV.out]; exact hgrow) (by rw [HSV.out]; simpa using hat)
              refine ⟨k + 1, _, _, by omega, by go_num, blk3.set _ _, HCS2.out _, hR3.set blk3 (by decide) _ _, bel_set (p := ⟨w2.heap.size, 34 + x, none⟩) (Nat.le_refl _) (((bel_alloc zB belB).drew).grown hgrow (by simp; omega) (fun y hy => ?_))⟩
              have := (World.ownsRow.lt hown y hy).1
              omega
    · obtain rfl : k = n := by omega
      go_wp2_with fail
      go_ret2
      exact ⟨w2.heap.size, rfl, coder_of HN.out z1 z2 rfl blk hC.out hR.out rbel hown2 bc2 hgc HW.out, hbel2.trans (rbel.mono hbel2.size)⟩
end Go.Proofs.YtidclmmnfienlaaDoor.Huff
