/-
  The walk of the reference's W.Put: a number's bits, one behind the other.
-/
import Derived.Test.YtidclmmnfienlaaGreatDoorOwnBase
import Derived.Test.YtidclmmnfienlaaGreatDoorBitsBase
import Derived.Test.YtidclmmnfienlaaGreatDoorCloneNum
import Derived.Deep.RegionLaw
import Derived.Deep.AppendLies
import Derived.BigGuardPart
namespace Go.Proofs.YtidclmmnfienlaaGreatDoor.Huff
open Go.RowKit Go.Proofs.YtidclmmnfienlaaGreatDoor.Mem Go.Proofs.YtidclmmnfienlaaGreatDoor.Canon Go.Proofs.YtidclmmnfienlaaGreatDoor.Own

/-- Bits as numbers. -/
def b01 (bs : List Bool) : List Nat := bs.map fun b => if b then 1 else 0
theorem b01_length (bs : List Bool) : (b01 bs).length = bs.length := by simp [b01]
theorem b01_get (bs : List Bool) (i : Nat) : (b01 bs).getD i 0 = bit bs i := by
  unfold b01 bit
  rw [List.getD_eq_getElem?_getD, List.getD_eq_getElem?_getD, List.getElem?_map]
  cases bs[i]? <;> simp
theorem numL_snoc (k : IntKind) (l : List Nat) (x : Nat) : numL k (l ++ [x]) = numL k l ++ [.int k (x : Nat)] := by simp [numL]

/-- The reference's writer: it has these bits; the blocks of K are not its own. -/
structure RW (K : Nat → Prop) (w : World) (base g : Nat) (bs : List Bool) (v : Value) : Prop where
  blk : Blk w g 180 #[v]
  own : w.ownsRow base 5 1 v bs.length (numL .u8 (b01 bs))
  ne : v.ownBlock ≠ some g
  base : base ≤ w.heap.size
  kg : ¬ K g
  kv : ∀ x, v.ownBlock = some x → ¬ K x
  kK : ∀ k, K k → k < w.heap.size
theorem RW.start {K : Nat → Prop} {w w1 : World} {g : Nat} (hb : Blk w1 g 180 #[.slice none 0 0]) (hg : w.heap.size ≤ g) (hK : ∀ k, K k → k < w.heap.size) (h1 : w.heap.size ≤ w1.heap.size) : RW K w1 w.heap.size g [] (.slice none 0 0) :=
  ⟨hb, World.ownsRow_nil _ _ _ _, (fun h => by cases h), h1, (fun h => by have := hK _ h; omega), (fun x h => by cases h), fun k h => by have := hK k h; omega⟩
theorem RW.weak {K L : Nat → Prop} {w : World} {base g : Nat} {bs : List Bool} {v : Value} (h : RW K w base g bs v) (hl : ∀ k, L k → K k) : RW L w base g bs v :=
  ⟨h.blk, h.own, h.ne, h.base, fun e => h.kg (hl _ e), fun x hx e => h.kv x hx (hl _ e), fun k e => h.kK k (hl k e)⟩
/-- Other memory grows: the writer is as it was. -/
theorem RW.step {K L : Nat → Prop} {w w' : World} {base g : Nat} {bs : List Bool} {v : Value} (h : RW K w base g bs v) (hb : Below w.heap.size w w') (hL : ∀ k, L k → K k ∨ w.heap.size ≤ k ∧ k < w'.heap.size) : RW L w' base g bs v := by
  have hv : ∀ x, v.ownBlock = some x → x < w.heap.size := fun x hx => (World.ownsRow.lt h.own x hx).2
  refine ⟨h.blk.step hb, own_kept h.own (fun x hx => hb.block x (hv x hx)), h.ne, Nat.le_trans h.base hb.size, fun e => ?_, fun x hx e => ?_, fun k e => ?_⟩
  · rcases hL _ e with e | e
    · exact h.kg e
    · have := h.blk.lt; omega
  · rcases hL _ e with e | e
    · exact h.kv x hx e
    · have := hv x hx; omega
  · rcases hL _ e with e | e
    · have := h.kK k e; have := hb.size; omega
    · exact e.2
theorem RW.push {K : Nat → Prop} {w w1 w3 : World} {base g g3 cap : Nat} {bs : List Bool} {v : Value} (b : Bool) {y : Int} (h : RW K w base g bs v) (hb : Below w.heap.size w w1) (hy : y = ((if b then 1 else 0 : Nat) : Int))
    (hown : w3.ownsRow base 5 1 (.slice (some ⟨g3, 0, none⟩) (bs.length + 1) cap) (bs.length + 1) (numL .u8 (b01 bs) ++ [.int .u8 y])) (hg : w1.grownBy w3 v.ownBlock) (hat : v.ownBlock = some g3 ∨ g3 = w1.heap.size) :
    RW K (w3.setCell ⟨g, 0, none⟩ (.slice (some ⟨g3, 0, none⟩) (bs.length + 1) cap)) base g (bs ++ [b]) (.slice (some ⟨g3, 0, none⟩) (bs.length + 1) cap) ∧ Kept K w (w3.setCell ⟨g, 0, none⟩ (.slice (some ⟨g3, 0, none⟩) (bs.length + 1) cap)) := by
  have hgl := h.blk.lt
  have hz := hb.size
  have hkeep : g3 ≠ g ∧ ¬ K g3 := by
    rcases hat with e | e
    · exact ⟨fun e2 => h.ne (by rw [e, e2]), h.kv g3 e⟩
    · exact ⟨by omega, fun e2 => by have := h.kK _ e2; omega⟩
  have blk3 : Blk w3 g _ _ := (h.blk.step hb).grown hg (Ne.symm h.ne)
  have hkp : Kept K w (w3.setCell ⟨g, 0, none⟩ (.slice (some ⟨g3, 0, none⟩) (bs.length + 1) cap)) :=
    Kept.set (p := ⟨g, 0, none⟩) ((Kept.of_below hb h.kK).grown hg (fun k e => by have := h.kK k e; omega) h.kv) h.kg _
  have e1 : numL .u8 (b01 (bs ++ [b])) = numL .u8 (b01 bs) ++ [.int .u8 y] := by rw [hy]; simp [numL, b01]
  refine ⟨⟨blk3.set 0 _, ?_, fun e => hkeep.1 (by simpa [Value.ownBlock] using e), Nat.le_trans h.base hkp.size, h.kg, fun x hx => ?_, hkp.lt h.kK⟩, hkp⟩
  · rw [e1, List.length_append, List.length_singleton]
    exact own_kept hown (fun x hx => by
      have hx : g3 = x := by simpa [Value.ownBlock] using hx
      subst hx
      exact Below.heap_setCell _ _ _ g3 hkeep.1)
  · have hx : g3 = x := by simpa [Value.ownBlock] using hx
    subst hx
    exact hkeep.2

/-- The lowest k bits of a number, the lowest first. -/
def lowL (x k : Nat) : List Nat := (List.range k).map fun i => x / 2 ^ i % 2
theorem lowL_length (x k : Nat) : (lowL x k).length = k := by simp [lowL]
theorem lowL_snoc (x k : Nat) : lowL x (k + 1) = lowL x k ++ [x / 2 ^ k % 2] := by simp [lowL, List.range_succ]
theorem lowL_get {x k i : Nat} (h : i < k) : (lowL x k)[i]? = some (x / 2 ^ i % 2) := by simp [lowL, h]

set_option maxHeartbeats 1000000 in
set_option maxRecDepth 100000 in
theorem rput_any (K : Nat → Prop) (w : World) (g base : Nat) (v : Value) (bs : List Bool) (x n : Nat) (hx : x < 2 ^ n) (hn : n ≤ 64) (hle : bs.length + n ≤ 6000000) (hW : RW K w base g bs v) :
    Calls Tryz.prog 132 #[.pointer (some ⟨g, 0, none⟩), .int .u64 (x : Nat), .int .i64 (n : Nat)] w fun e w' => e = .returned (.int .i64 0) ∧ ∃ v', RW K w' base g (bs ++ msb x n n) v' ∧ Kept K w w' := by
  obtain ⟨j0, hj0, hy0, hy1, hy2⟩ := info_parts info_u8
  have hx64 : x < 18446744073709551616 := Nat.lt_of_lt_of_le hx (by have : 2 ^ n ≤ 2 ^ 64 := Nat.pow_le_pow_right (by omega) hn; omega)
  have HW := Lib.hid hW
  have HLE := Lib.hid hle
  have HX := Lib.hid hx
  clear hW hle hx
  go_enter Tryz.func132, Tryz.ntmps132
  go_wp2_with fail
  go_loopw [1, 7, 8] (fun y u i wr => ∃ (k z : Nat), k ≤ n ∧ i = .int .i64 k ∧ y = .int .u64 z ∧ Hid (z = x / 2 ^ k) ∧ z < 18446744073709551616 ∧ wr.ownsRow w.heap.size 5 1 u k (numL .u8 (lowL x k)) ∧ Below w.heap.size w wr) (fun _ _ i _ => n - (intOf i).toNat)
  case atStart => exact ⟨0, x, by omega, rfl, rfl, by show x = _; simp, hx64, World.ownsRow_nil _ _ _ _, Below.refl _ _⟩
  case round =>
    obtain ⟨k, z, hk, rfl, rfl, hz, hz64, hown, rbel⟩ := hrel
    have hbr := rbel.size
    by_cases hlt : k < n
    · obtain ⟨va, vc, rfl⟩ := own_shape hown
      go_wp2_with (at_builtin; refine wpList_app rfl (.tmp 21) (.tmp 25) 29 rfl w.heap.size 5 j0 _ 1 1 Tryz.underlying29 hj0 hy0 hy1 hy2 rfl (by decide) _ _ _ (by rfl) (hown.alloc _) _ 1 1 [.int .u8 ((z % 2 : Nat) : Int)] (by rfl) (Src.of_blk (Blk.made _ _ _) 1 1 1 rfl) (by intro u hu; simp at hu; subst hu; rfl) (by unfold maxLen; omega) (by omega) (by simp; omega) ?_; intro v3 w3 hown3 hg3 hat3)
      have hz2 : z / 2 = x / 2 ^ (k + 1) := by rw [hz.out, Nat.pow_succ, Nat.div_div_eq_div_mul]
      have HZ2 := Lib.hid hz2
      go_roundw
      case measure => go_light; simp [intOf]; omega
      case rel =>
        go_light
        refine ⟨k + 1, z / 2, by omega, by go_num, by go_num, HZ2.out, by omega, ?_, (bel_alloc hbr rbel).grown hg3 (by simp; omega) (fun y hy => (World.ownsRow.lt hown y hy).1)⟩
        rw [lowL_snoc, numL_snoc, ← hz.out]
        exact hown3
    · obtain rfl : k = n := by omega
      have hz0 : z = 0 := by rw [hz.out]; exact Nat.div_eq_of_lt HX.out
      subst hz0
      have e0 : ((0 : Nat) : Int) = 0 := rfl
      rw [e0]
      clear e0
      obtain ⟨va, vc, rfl⟩ := own_shape hown
      have hW2 : RW (fun y => K y ∨ some y = (Value.slice va k vc).ownBlock) wr base g bs v := HW.out.step rbel (fun y hy => by
        rcases hy with hy | hy
        · exact .inl hy
        · exact .inr (World.ownsRow.lt hown y hy.symm))
      have hW3 : RW (fun y => K y ∨ some y = (Value.slice va k vc).ownBlock) wr base g (bs ++ msb x k (k - k)) v := by rw [Nat.sub_self, msb_zero, List.append_nil]; exact hW2
      have HW3 := Lib.hid hW3
      have HKP := Lib.hid (Kept.of_below rbel HW.out.kK)
      have HOWN := Lib.hid hown
      clear hW2 hW3 hz hown rbel
      go_wp2_with fail
      obtain ⟨wo, rfl⟩ : ∃ wo : World, wo = wr := ⟨_, rfl⟩
      go_loopw [9] (fun i wx => ∃ (j : Nat) (v' : Value), j ≤ k ∧ i = .int .i64 ((j : Int) - 1) ∧ Hid (RW (fun y => K y ∨ some y = (Value.slice va k vc).ownBlock) wx base g (bs ++ msb x k (k - j)) v') ∧ Kept (fun y => K y ∨ some y = (Value.slice va k vc).ownBlock) wo wx) (fun i _ => (intOf i + 1).toNat)
      case atStart => exact ⟨k, v, by omega, by go_num, HW3.out, Kept.refl _ _⟩
      case round =>
        obtain ⟨j, v', hj, rfl, hWr, hkp⟩ := hrel
        cases j with
        | zero =>
          have e : (((0 : Nat) : Int) - 1) = -1 := by omega
          rw [e]
          clear e
          go_wp2_with fail
          go_ret
          refine ⟨rfl, v', hWr.out.weak (fun y hy => .inl hy), HKP.out.trans ⟨hkp.os, hkp.tape, hkp.output, hkp.size, fun y hy => hkp.block y (.inl hy)⟩⟩
        | succ j =>
          have e : (((j + 1 : Nat) : Int) - 1) = (j : Int) := by omega
          rw [e]
          clear e
          obtain ⟨gl, cl, hgl, hgl1, hgl2⟩ := HOWN.out.form (by omega)
          injection hgl with e1 e2 e3
          subst e1 e3
          have c0 := (World.cell?_of_block (a := ⟨gl, j, none⟩) (hkp.block gl (.inr rfl))).trans (HOWN.out.cellAt j (by omega))
          have c1 : wr.cell? ⟨gl, j, none⟩ = some (.int .u8 ((x / 2 ^ j % 2 : Nat) : Int)) := by
            rw [c0]; simp [numL, lowL_get (show j < k by omega)]
          have hown := hWr.out.own
          have hlen : (bs ++ msb x k (k - (j + 1))).length ≤ 6000000 := by rw [List.length_append, msb_length]; have := HLE.out; omega
          obtain ⟨q, hq⟩ : ∃ q, q = (bs ++ msb x k (k - (j + 1))).length := ⟨_, rfl⟩
          rw [← hq] at hown hlen
          obtain ⟨AS, cS, rfl⟩ := own_shape hown
          have HQ := Lib.hid hq
          have d0 := hWr.out.blk.cell 0
          simp only [List.getElem?_toArray, List.getElem?_cons_zero] at d0
          have f0 := hWr.out.blk.frozen 0
          have hgl0 := hWr.out.blk.lt
          have hne2 : some g ≠ (Value.slice AS q cS).ownBlock := Ne.symm hWr.out.ne
          generalize hyv : ((x / 2 ^ j % 2 : Nat) : Int) = yv at c1
          have HYV := Lib.hid hyv
          have x0 : (0 : Int) ≤ (j : Int) := by omega
          have x1 : (j : Int) < (k : Int) := by omega
          have hkz := hWr.out.base
          clear c0 hyv hq hgl1 hgl2 e2
          go_upto_region 14 with fail
          go_region_law ((refine step_append_lies _ (by rfl) _ _ _ (by rfl) base 5 j0 _ 1 1 Tryz.underlying29 hj0 hy0 hy1 hy2 rfl (by omega) (.slice AS q cS) q (numL .u8 (b01 (bs ++ msb x k (k - (j + 1))))) (by rfl) ((hown.alloc _).drew) ⟨wr.heap.size, 0, none⟩ 1 1 [.int .u8 yv] (by rfl) (by rfl) (World.news_of_block (cs := #[.int .u8 yv]) (t := 5) (fr := (0, 0)) (heap_alloc_new wr _)) (by intro u hu; simp at hu; subst hu; rfl) (by omega) (by unfold maxLen; omega) (by omega) (by simp; omega) (wr.heap.size + 1) (by simp) ?_; intro g3 cap3 w3 hown3 hgrow hat hlt3; have gb : w3.heap[g]? = wr.heap[g]? := (hgrow.block g (by simp; omega) hne2).trans (Below.heap_alloc wr _ g hgl0); have p3 := (World.cell?_of_block (a := ⟨g, 0, none⟩) gb).trans d0; have p4 := (World.frozen?_of_block (a := ⟨g, 0, none⟩) gb).trans f0))
          all_goals
            go_wp2_with fail
            go_roundw
            case measure => go_light; simp [intOf]
            case rel =>
              go_light
              have hq := HQ.out
              subst hq
              obtain ⟨hW4, hk4⟩ := hWr.out.push (decide (x / 2 ^ j % 2 = 1)) (y := yv) ((bel_alloc0 (Below.refl _ wr)).drew) (by rw [← HYV.out, one_bit]) hown3 hgrow (by simpa using hat)
              have e : bs ++ msb x k (k - j) = bs ++ msb x k (k - (j + 1)) ++ [decide (x / 2 ^ j % 2 = 1)] := by
                rw [show k - j = k - (j + 1) + 1 by omega, msb_succ, ← List.append_assoc, show k - 1 - (k - (j + 1)) = j by omega]
              rw [← e] at hW4
              exact ⟨j, _, by omega, by go_num, hW4, hkp.trans hk4⟩
end Go.Proofs.YtidclmmnfienlaaGreatDoor.Huff
