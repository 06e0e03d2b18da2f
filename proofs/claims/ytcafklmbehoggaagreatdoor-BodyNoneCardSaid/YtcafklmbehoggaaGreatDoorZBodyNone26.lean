/-
  A bucket of texts: the walk of dict.bucket. Plain: buckets by their numbers; rows of bytes that stand apart. No walk. Four bytes of a number, the least first: the walks of nums.Fixed and the reference's. A number's high and low part: the walk of (*ef.parts).add. A rising row in few bits: the walk of ef.Write.
-/
import Derived.Test.YtcafklmbehoggaaGreatDoorZBodyNone14
import Derived.Test.YtcafklmbehoggaaGreatDoorZBodyNone25
import Derived.Test.YtcafklmbehoggaaGreatDoorZBodyNone24
import Derived.Test.YtcafklmbehoggaaGreatDoorZBodyNone23
import Derived.Test.YtcafklmbehoggaaGreatDoorZBodyNone10
namespace Go.Proofs.YtcafklmbehoggaaGreatDoor.Idx
open Go.RowKit Go.Proofs.YtcafklmbehoggaaGreatDoor.Mem Go.Proofs.YtcafklmbehoggaaGreatDoor.Own Go.Proofs.YtcafklmbehoggaaGreatDoor.Canon Go.Proofs.YtcafklmbehoggaaGreatDoor.Sift
open Go.Proofs.YtcafklmbehoggaaGreatDoor.NumPut Go.Proofs.YtcafklmbehoggaaGreatDoor.Recs Go.Proofs.YtcafklmbehoggaaGreatDoor Go.Proofs.YtcafklmbehoggaaGreatDoor.Crc Go.Proofs.YtcafklmbehoggaaGreatDoor.Block
theorem textB_bs (s : Str) : textB (bs s) = textS s := by
  unfold textB textS
  rw [bs_size]
  rfl
theorem textS_len {s : Str} (h : s.length ≤ 25) : (textS s).length ≤ 28 := by
  have h1 := textB_len (s := bs s) (by rw [bs_size]; omega)
  rw [textB_bs, bs_size] at h1
  omega
theorem take_last {l : List Str} {k : Nat} {x : Str} (h : l[k]? = some x) : (l.take (k + 1)).getLast? = some x := by
  rw [List.take_add_one, h]
  simp
theorem bucketB_step {l : List Str} {k : Nat} {x y : Str} (hx : l[k]? = some x) (hy : l[k + 1]? = some y) : bucketB (l.take (k + 1 + 1)) = bucketB (l.take (k + 1)) ++ (numB (alikeS x y) ++ textS (y.drop (alikeS x y))) := by
  rw [List.take_add_one (i := k + 1), hy]
  refine bucketB_snoc ?_ y x (take_last hx)
  rw [List.take_add_one, hx]
  simp
theorem numB_small {x : Nat} (h : x ≤ 127) : (numB x).length = 1 := by rw [numB_low (by omega)]; rfl
theorem run_tail (s : Str) (a : Nat) (ha : a ≤ s.length) (w : World) : (Instr.slice 9 (.string (bs s)) (some (.int .i64 (a : Int))) none none).run Tryz.prog w = .ok (.string (bs (s.drop a))) w := by
  have hz := bs_size s
  rw [run_slice_string_l w (t := 9) (s := bs s) (ht := Tryz.underlying9) .i64 (a : Int) (by omega) (by omega), Int.toNat_natCast]
  have e : (bs s).extract a (bs s).size = bs (s.drop a) := by
    refine ByteArray.ext (Array.ext' ?_)
    rw [extract_list, bs_list, hz, List.take_of_length_le (by rw [List.length_drop]; exact Nat.le_refl _)]
    rfl
  rw [e]
def ColPost (bs : List Nat) (w : World) (e : Ending) (w' : World) : Prop :=
  ∃ v, e = .returned v ∧ w'.ownsRow w.heap.size 5 1 v bs.length (numL .u8 bs) ∧ Below w.heap.size w w'
set_option maxHeartbeats 2000000 in
set_option maxRecDepth 100000 in
theorem bucket_any (w : World) (A : Option Addr) (n c : Nat) (ls : List Str) (hn : ls.length = n) (h1 : 1 ≤ n) (hN : n ≤ 64) (hnc : n ≤ c) (hs : ∀ s ∈ ls, s.length ≤ 25) (ha : Row w w.heap.size A n 1 (strF ls)) :
    Calls Tryz.prog 141 #[.slice A n c] w (ColPost (bucketB ls) w) := by
  have HN := Lib.hid hn
  have HSS : Hid (∀ (k : Nat) (x : Str), ls[k]? = some x → x.length ≤ 25) := fun k x h => hs x (List.mem_of_getElem? h)
  obtain ⟨b, off, x0, hA, hbb, hx0, cx0⟩ := Row.str ha hn (k := 0) (by omega)
  have hb0 : bucketB (ls.take (0 + 1)) = textS x0 := by
    rw [List.take_add_one, hx0]
    simp [bucketB, restB]
  have DT := Lib.hid (text_any w (bs x0) (by rw [bs_size]; have := HSS.out 0 x0 hx0; omega))
  rw [textB_bs, ← hb0] at DT
  have hl0 : (bucketB (ls.take (0 + 1))).length ≤ 28 := by rw [hb0]; exact textS_len (HSS.out 0 x0 hx0)
  have ks := fun wx => run_cut (P := Tryz.prog) (t := 48) (s := 1) Tryz.underlying48 (fun _ => by kernel_rfl) A n c .i64 (1 : Int) 1 rfl h1 wx
  have hrc : Row w w.heap.size (cutA A 1 c 1) (n - 1) 1 (fun i j => strF ls (i + 1) j) := Row.cut ha 1 (n - 1) (by omega) hnc fun i j _ _ => by rw [Nat.add_comm]
  generalize cutA A 1 c 1 = A1 at *
  generalize c - 1 = c1 at *
  obtain ⟨m, hm⟩ : ∃ m, m = n - 1 := ⟨_, rfl⟩
  rw [← hm] at ks hrc
  have hmn : m + 1 = n := by omega
  have HFUL : Hid (bucketB (ls.take (m + 1)) = bucketB ls) := by show _ = _; rw [List.take_of_length_le (by omega)]
  unfold ColPost
  obtain ⟨R, hR⟩ : ∃ R, R = bucketB ls := ⟨_, rfl⟩
  rw [← hR] at HFUL ⊢
  obtain ⟨B, hB⟩ : ∃ B : Nat → List Nat, B = fun k => bucketB (ls.take (k + 1)) := ⟨_, rfl⟩
  have HBS : Hid (∀ (k : Nat) (x y : Str), ls[k]? = some x → ls[k + 1]? = some y → B (k + 1) = B k ++ (numB (alikeS x y) ++ textS (y.drop (alikeS x y)))) := fun k x y hx hy => by rw [hB]; exact bucketB_step hx hy
  have HFUL2 : Hid (B m = R) := by rw [hB]; exact HFUL.out
  rw [show bucketB (ls.take (0 + 1)) = B 0 by rw [hB]] at DT hl0
  subst hA
  rw [Nat.add_zero] at cx0
  clear hn hs hx0 hb0 HFUL hR hB hm
  go_enter Tryz.func141, Tryz.ntmps141
  go_wp2_with fail
  refine DT.out.mono ?_
  rintro e w1 ⟨v1, rfl, ho1, hb1⟩
  obtain ⟨A2, c2, rfl⟩ := own_shape ho1
  have HO1 := Lib.hid ho1
  have HB1 := Lib.hid hb1
  clear ho1 hb1 DT
  go_wp2_with fail
  go_loopw [3, 14] (fun uv iv wr => ∃ (k p : Nat), k ≤ m ∧ p ≤ 28 + 31 * k ∧ iv = .int .i64 k ∧ Hid ((B k).length = p) ∧ Hid (wr.ownsRow w.heap.size 5 1 uv p (numL .u8 (B k))) ∧ Hid (Below w.heap.size w wr)) (fun _ iv _ => m - (intOf iv).toNat)
  case atStart => exact ⟨0, (B 0).length, by omega, by omega, rfl, rfl, HO1.out, HB1.out⟩
  case round =>
    obtain ⟨k, p, hk, hp, rfl, HP, HO, HB⟩ := hrel
    clear HO1 HB1
    obtain ⟨wi, rfl⟩ : ∃ wi : World, wi = wr := ⟨_, rfl⟩
    obtain ⟨A3, c3, rfl⟩ := own_shape HO.out
    by_cases hlt : k < m
    · have hpe : (B k).length = p := HP.out
      subst hpe
      have gk : decide ((k : Int) < (m : Int)) = true := by simp; omega
      have gk' : decide (k < m) = true := by simp; omega
      have x0' : (0 : Int) ≤ (k : Int) := by omega
      have x1 : (k : Int) < (m : Int) := by omega
      have x2 : (k : Int) < (n : Int) := by omega
      obtain ⟨b', off', x, hA', _, hx, cx⟩ := Row.str (ha.below HB.out) HN.out (k := k) (by omega)
      injection hA' with hA'
      injection hA' with e1 e2
      subst e1 e2
      obtain ⟨y, hy⟩ : ∃ y, ls[k + 1]? = some y := ⟨_, List.getElem?_eq_getElem (by have := HN.out; omega)⟩
      obtain ⟨b1, off1, hA1, _, hc1⟩ := (hrc.below HB.out) (by omega)
      subst hA1
      have cy : wi.cell? ⟨b1, off1 + k, none⟩ = some (.string (bs y)) := by
        have h := hc1 k 0 hlt (by omega)
        rw [Nat.mul_one, Nat.add_zero] at h
        rw [h]
        show some (Value.string (bs (ls.getD (k + 1) []))) = _
        rw [List.getD_eq_getElem?_getD, hy]
        rfl
      have hxl := HSS.out k x hx
      have hyl := HSS.out (k + 1) y hy
      have hal := alikeS_le x y
      have hst := HBS.out k x y hx hy
      have DS := Lib.hid (same16_any wi x y (by omega) (by omega))
      obtain ⟨a, hae⟩ : ∃ a, a = alikeS x y := ⟨_, rfl⟩
      rw [← hae] at hal hst DS
      have hzy := bs_size y
      have hdl : (y.drop a).length ≤ 25 := by rw [List.length_drop]; omega
      have hzd := bs_size (y.drop a)
      have kl := fun wx => run_tail y a hal.2 wx
      have DN := Lib.hid (fun wx => num64_any wx a (by omega))
      have DX := Lib.hid (fun wx => text_any wx (bs (y.drop a)) (by rw [hzd]; omega))
      rw [textB_bs] at DX
      have u1 : IntKind.u64.wrap (a : Int) = (a : Int) := by rw [IntKind.wrap_u64]; omega
      have hln : (numB a).length ≤ 3 := by rw [numB_small (by omega)]; omega
      have hlx := textS_len hdl
      have PB : Hid (∀ wx, Below wi.heap.size wi wx → Part.Ok (⟨A3, c3, B k⟩ : Part) wx) := fun wx hb => by
        have h := part_own (own_kept HO.out (fun z hz => hb.block z (World.ownsRow.lt HO.out z hz).2)) HP.out
        exact h
      generalize bs (y.drop a) = Y2 at *
      generalize textS (y.drop a) = X2 at *
      generalize numB a = X1 at *
      have HST := Lib.hid hst
      have HBK : (B k).length ≤ 2000 := by have := HP.out; omega
      have hs3 : ∀ a1 a2 a3 a4 a5 a6, sumL [(⟨a1, a2, B k⟩ : Part), ⟨a3, a4, X1⟩, ⟨a5, a6, X2⟩] ≤ 1000000 := fun _ _ _ _ _ _ => by simp [sumL]; omega
      clear hst hx hy hae hxl hyl hzy hzd hc1
      go_wp2_with fail
      refine DS.out.mono ?_
      rintro e w2 ⟨rfl, hq⟩
      have HB2 : Hid (Below wi.heap.size wi w2) := by
        obtain ⟨q, rfl⟩ := hq
        exact below_drewN (Below.refl _ _) q
      clear hq DS
      have hz2 := HB2.out.size
      go_upto_region 6 with fail
      have b2 : Below wi.heap.size wi w2.drew := HB2.out.drew
      go_region_held3 (fun _ => True) (trivial) (first | (go_at_call 83; (with_reducible refine (DN.out _).mono ?_); rintro e wA ⟨vA, rfl, hoA, hbA⟩; obtain ⟨AA, cA, rfl⟩ := own_shape hoA; have BA : Below wi.heap.size wi wA := bel_step hbA (by first | omega | (simp; done) | (simp; omega)) (by (repeat (first | (with_reducible exact Below.refl _ _) | (with_reducible assumption) | (with_reducible refine Below.drew ?_) | (with_reducible refine below_drewN ?_ _) | ((with_reducible refine bel_set ?_ ?_); (focus (first | (simp; done) | (simp; omega) | omega | (simp at *; omega)))) | (with_reducible refine bel_alloc0 ?_) | (with_reducible refine bel_step0 (by assumption) ?_) | ((with_reducible refine bel_alloc ?_ ?_); (focus (first | (simp; done) | (simp; omega) | omega | (simp at *; omega)))) | ((with_reducible refine bel_step (by assumption) ?_ ?_); (focus (first | (simp; done) | (simp; omega) | omega | (simp at *; omega))))))); have zA := BA.size; have PA : Part.Ok (⟨AA, cA, X1⟩ : Part) wA := part_own hoA rfl) | (go_at_call 135; (with_reducible refine (DX.out _).mono ?_); rintro e wB ⟨vB, rfl, hoB, hbB⟩; obtain ⟨AB, cB, rfl⟩ := own_shape hoB; have BB : Below wi.heap.size wi wB := bel_step hbB (by first | omega | (simp; done) | (simp; omega)) (by (repeat (first | (with_reducible exact Below.refl _ _) | (with_reducible assumption) | (with_reducible refine Below.drew ?_) | (with_reducible refine below_drewN ?_ _) | ((with_reducible refine bel_set ?_ ?_); (focus (first | (simp; done) | (simp; omega) | omega | (simp at *; omega)))) | (with_reducible refine bel_alloc0 ?_) | (with_reducible refine bel_step0 (by assumption) ?_) | ((with_reducible refine bel_alloc ?_ ?_); (focus (first | (simp; done) | (simp; omega) | omega | (simp at *; omega)))) | ((with_reducible refine bel_step (by assumption) ?_ ?_); (focus (first | (simp; done) | (simp; omega) | omega | (simp at *; omega))))))); have zB := BB.size; have PX : Part.Ok (⟨AB, cB, X2⟩ : Part) wB := part_own hoB rfl) | (go_at_call 43; (refine (all_any _ _ 3 [(⟨A3, c3, B k⟩ : Part), (⟨AA, cA, X1⟩ : Part), (⟨AB, cB, X2⟩ : Part)] rfl (by omega) (hs3 _ _ _ _ _ _) (fun p hp => by { rcases List.mem_cons.1 hp with rfl | hp; exact PB.out _ (by (repeat (first | (with_reducible exact Below.refl _ _) | (with_reducible assumption) | (with_reducible refine Below.drew ?_) | (with_reducible refine below_drewN ?_ _) | ((with_reducible refine bel_set ?_ ?_); (focus (first | (simp; done) | (simp; omega) | omega | (simp at *; omega)))) | (with_reducible refine bel_alloc0 ?_) | (with_reducible refine bel_step0 (by assumption) ?_) | ((with_reducible refine bel_alloc ?_ ?_); (focus (first | (simp; done) | (simp; omega) | omega | (simp at *; omega)))) | ((with_reducible refine bel_step (by assumption) ?_ ?_); (focus (first | (simp; done) | (simp; omega) | omega | (simp at *; omega))))))); rcases List.mem_cons.1 hp with rfl | hp; exact PA.step (by (repeat (first | (with_reducible exact Below.refl _ _) | (with_reducible assumption) | (with_reducible refine Below.drew ?_) | (with_reducible refine below_drewN ?_ _) | ((with_reducible refine bel_set ?_ ?_); (focus (first | (simp; done) | (simp; omega) | omega | (simp at *; omega)))) | (with_reducible refine bel_alloc0 ?_) | (with_reducible refine bel_step0 (by assumption) ?_) | ((with_reducible refine bel_alloc ?_ ?_); (focus (first | (simp; done) | (simp; omega) | omega | (simp at *; omega)))) | ((with_reducible refine bel_step (by assumption) ?_ ?_); (focus (first | (simp; done) | (simp; omega) | omega | (simp at *; omega))))))); rcases List.mem_cons.1 hp with rfl | hp; exact PX.step (by (repeat (first | (with_reducible exact Below.refl _ _) | (with_reducible assumption) | (with_reducible refine Below.drew ?_) | (with_reducible refine below_drewN ?_ _) | ((with_reducible refine bel_set ?_ ?_); (focus (first | (simp; done) | (simp; omega) | omega | (simp at *; omega)))) | (with_reducible refine bel_alloc0 ?_) | (with_reducible refine bel_step0 (by assumption) ?_) | ((with_reducible refine bel_alloc ?_ ?_); (focus (first | (simp; done) | (simp; omega) | omega | (simp at *; omega)))) | ((with_reducible refine bel_step (by assumption) ?_ ?_); (focus (first | (simp; done) | (simp; omega) | omega | (simp at *; omega))))))); cases hp }) (by first | exact Blk.made _ _ _ | exact Blk.drew (Blk.made _ _ _))).mono ?_); rintro e w7 ⟨v7, rfl, ho7, hb7⟩; obtain ⟨A7, c7, rfl⟩ := own_shape ho7; have B7 : Below wi.heap.size wi w7 := bel_step hb7 (by first | omega | (simp; done) | (simp; omega)) (by (repeat (first | (with_reducible exact Below.refl _ _) | (with_reducible assumption) | (with_reducible refine Below.drew ?_) | (with_reducible refine below_drewN ?_ _) | ((with_reducible refine bel_set ?_ ?_); (focus (first | (simp; done) | (simp; omega) | omega | (simp at *; omega)))) | (with_reducible refine bel_alloc0 ?_) | (with_reducible refine bel_step0 (by assumption) ?_) | ((with_reducible refine bel_alloc ?_ ?_); (focus (first | (simp; done) | (simp; omega) | omega | (simp at *; omega)))) | ((with_reducible refine bel_step (by assumption) ?_ ?_); (focus (first | (simp; done) | (simp; omega) | omega | (simp at *; omega)))))))))
      all_goals
        have HL9 : Hid ((B (k + 1)).length = (B k).length + (X1.length + X2.length)) := by
          show _ = _
          rw [HST.out, List.length_append, List.length_append]
        have HO9 : Hid (w7.ownsRow w.heap.size 5 1 (.slice A7 ((B k).length + (X1.length + X2.length)) c7) ((B k).length + (X1.length + X2.length)) (numL .u8 (B (k + 1)))) := by
          have h := own_mono ho7 (show w.heap.size ≤ _ by have := HB.out.size; have := zA; have := zB; first | omega | (simp; omega))
          simp only [List.flatMap_cons, List.flatMap_nil, List.append_nil, List.length_append] at h
          show World.ownsRow _ _ _ _ _ _ _
          rw [HST.out]
          exact h
        have HB9 : Hid (Below w.heap.size w w7) := bel_step0 B7 HB.out
        clear ho7 hb7 PA PX PB HO HB HP HST B7
        go_wp2_with fail
        go_roundw
        case measure => go_light; simp [intOf]; omega
        case rel => go_light; exact ⟨k + 1, _, by omega, by omega, by first | rfl | go_num, HL9.out, HO9.out, HB9.out⟩
    · obtain rfl : k = m := by omega
      have gk : decide ((k : Int) < (k : Int)) = false := by simp
      have gk' : decide (k < k) = false := by simp
      have hpe : (B k).length = p := HP.out
      subst hpe
      go_wp2_with fail
      go_ret
      exact ⟨_, rfl, by rw [← HFUL2.out]; exact HO.out, HB.out⟩
end Go.Proofs.YtcafklmbehoggaaGreatDoor.Idx
namespace Go.Proofs.YtcafklmbehoggaaGreatDoor.Idx
open Go.RowKit Go.Proofs.YtcafklmbehoggaaGreatDoor.Mem Go.Proofs.YtcafklmbehoggaaGreatDoor.Own Go.Proofs.YtcafklmbehoggaaGreatDoor.Canon
open Go.Proofs.YtcafklmbehoggaaGreatDoor.NumPut (numB numB_len64)
def chunkS (size : Nat) (l : List Str) (k : Nat) : List Str := (l.drop (k * size)).take size
def nCh (size n : Nat) : Nat := (n + size - 1) / size
theorem nCh_iff {size n k : Nat} (h : 1 ≤ size) : k < nCh size n ↔ k * size < n := by
  unfold nCh
  rw [Nat.lt_iff_add_one_le, Nat.le_div_iff_mul_le (by omega), Nat.add_mul]
  omega
theorem nCh_zero {size : Nat} (h : 1 ≤ size) : nCh size 0 = 0 := by
  unfold nCh
  exact Nat.div_eq_of_lt (by omega)
theorem nCh_step {size n : Nat} (h : 1 ≤ size) (hn : 1 ≤ n) : nCh size n = nCh size (n - size) + 1 := by
  unfold nCh
  by_cases hs : size ≤ n
  · have e : n + size - 1 = (n - size + size - 1) + size := by omega
    rw [e, Nat.add_div_right _ (by omega)]
  · have e : n - size = 0 := by omega
    rw [e, Nat.zero_add, Nat.div_eq_of_lt (by omega : size - 1 < size)]
    have e2 : n + size - 1 = (n - 1) + size := by omega
    rw [e2, Nat.add_div_right _ (by omega), Nat.div_eq_of_lt (by omega)]
theorem nCh_le {size n : Nat} (h : 1 ≤ size) : nCh size n ≤ n := by
  refine Decidable.byContradiction fun hn => ?_
  have h1 := (nCh_iff (n := n) (k := n) h).1 (by omega)
  have h2 : n * 1 ≤ n * size := Nat.mul_le_mul_left n h
  omega
theorem chunkS_zero (size : Nat) (l : List Str) : chunkS size l 0 = l.take size := by simp [chunkS]
theorem chunkS_succ (size : Nat) (l : List Str) (k : Nat) : chunkS size l (k + 1) = chunkS size (l.drop size) k := by
  unfold chunkS
  rw [List.drop_drop, Nat.add_mul, Nat.one_mul, Nat.add_comm]
theorem bucketsS_eq {size : Nat} (h : 1 ≤ size) : ∀ (f : Nat) (l : List Str), l.length ≤ f → bucketsS size f l = (List.range (nCh size l.length)).map (chunkS size l)
  | 0, l, hl => by
    have e : l.length = 0 := by omega
    rw [e, nCh_zero h]
    rfl
  | f + 1, l, hl => by
    rw [bucketsS]
    by_cases e : l = []
    · rw [if_pos e, e]
      show [] = (List.range (nCh size 0)).map _
      rw [nCh_zero h]
      rfl
    · have hp : 1 ≤ l.length := List.length_pos_iff.2 e
      rw [if_neg e, nCh_step h hp, List.range_succ_eq_map, List.map_cons, List.map_map, chunkS_zero, bucketsS_eq h f (l.drop size) (by rw [List.length_drop]; omega), List.length_drop]
      congr 1
      exact List.map_congr_left fun k _ => (chunkS_succ size l k).symm
theorem buckets_eq {size : Nat} (h : 1 ≤ size) (l : List Str) : buckets size l = (List.range (nCh size l.length)).map (chunkS size l) := bucketsS_eq h _ l (Nat.le_refl _)
theorem dictO_eq {size : Nat} (h : 1 ≤ size) (l : List Str) : dictO size l = (numB l.length ++ (List.range (nCh size l.length)).flatMap (fun k => numB (bucketB (chunkS size l k)).length)) ++ (List.range (nCh size l.length)).flatMap (fun k => bucketB (chunkS size l k)) := by
  unfold dictO
  rw [buckets_eq h, List.flatMap_map, List.flatMap_map]
theorem restB_len : ∀ (t : List Str) (was : Str), (∀ s ∈ t, s.length ≤ 25) → was.length ≤ 25 → (restB was t).length ≤ 31 * t.length
  | [], _, _, _ => by simp [restB]
  | x :: t, was, h, hw => by
    have hx := h x List.mem_cons_self
    have ih := restB_len t x (fun s hs => h s (List.mem_cons_of_mem _ hs)) hx
    have ha := (alikeS_le was x).2
    rw [restB, List.length_append, List.length_append, List.length_cons, numB_small (by omega)]
    have := textS_len (s := x.drop (alikeS was x)) (by rw [List.length_drop]; omega)
    omega
theorem bucketB_len {l : List Str} (h : ∀ s ∈ l, s.length ≤ 25) : (bucketB l).length ≤ 31 * l.length := by
  cases l with
  | nil => simp [bucketB]
  | cons x t =>
    rw [bucketB, List.length_append, List.length_cons]
    have := textS_len (h x List.mem_cons_self)
    have := restB_len t x (fun s hs => h s (List.mem_cons_of_mem _ hs)) (h x List.mem_cons_self)
    omega
theorem chunkS_mem {size k : Nat} {l : List Str} {s : Str} (h : s ∈ chunkS size l k) : s ∈ l := List.mem_of_mem_drop (List.mem_of_mem_take h)
theorem chunkS_len (size k : Nat) (l : List Str) : (chunkS size l k).length = min size (l.length - k * size) := by
  unfold chunkS
  rw [List.length_take, List.length_drop]
def Apt (v u : Value) : Prop := ∀ x, v.ownBlock = some x → u.ownBlock = some x → False
theorem Apt.symm {v u : Value} (h : Apt v u) : Apt u v := fun x a b => h x b a
theorem app_other {w w' : World} {base s m : Nat} {e : TypeId} {v v' u : Value} {ys : List Value} (hu : w.ownsRow base e s u m ys) (ha : Apt v u) (hg : w.grownBy w' v.ownBlock) (hat : v'.ownBlock = v.ownBlock ∨ v'.ownBlock = some w.heap.size) :
    w'.ownsRow base e s u m ys ∧ Apt v' u := by
  refine ⟨own_kept hu fun y hy => hg.block y (World.ownsRow.lt hu y hy).2 fun e => ha y e.symm hy, fun x hx hy => ?_⟩
  rcases hat with h | h
  · exact ha x (h ▸ hx) hy
  · rw [h] at hx
    have := (World.ownsRow.lt hu x hy).2
    injection hx
    omega
theorem apt_new {w : World} {base s m : Nat} {e : TypeId} {v u : Value} {xs : List Value} {B : Nat} (hv : w.ownsRow base e s v m xs) (hB : B ≤ base) (hu : ∀ x, u.ownBlock = some x → x < B) : Apt v u :=
  fun x a b => by have := (World.ownsRow.lt hv x a).1; have := hu x b; omega
theorem risesT_small : ∀ (l : List Str) (was : Str), risesT was l = true → ∀ s ∈ l, 1 ≤ s.length ∧ s.length ≤ 25
  | [], _, _, s, hs => by cases hs
  | x :: t, was, h, s, hs => by
    rw [risesT, Bool.and_eq_true] at h
    rcases List.mem_cons.1 hs with rfl | hs
    · have h1 := h.1
      unfold mayT at h1
      rw [Bool.and_eq_true, Bool.and_eq_true, decide_eq_true_iff, decide_eq_true_iff] at h1
      exact ⟨h1.1, h1.2.1⟩
    · exact risesT_small t x h.2 s hs
theorem mayD_small {l : List Str} (h : mayD l = true) : ∀ s ∈ l, 1 ≤ s.length ∧ s.length ≤ 25 := by
  unfold mayD at h
  rw [Bool.and_eq_true] at h
  exact risesT_small l [] h.1
def hdB (size : Nat) (l : List Str) (q : Nat) : List Nat := numB l.length ++ (List.range q).flatMap (fun k => numB (bucketB (chunkS size l k)).length)
def bdB (size : Nat) (l : List Str) (q : Nat) : List Nat := (List.range q).flatMap (fun k => bucketB (chunkS size l k))
theorem hdB_succ (size : Nat) (l : List Str) (q : Nat) : hdB size l (q + 1) = hdB size l q ++ numB (bucketB (chunkS size l q)).length := by simp [hdB, List.range_succ]
theorem bdB_succ (size : Nat) (l : List Str) (q : Nat) : bdB size l (q + 1) = bdB size l q ++ bucketB (chunkS size l q) := by simp [bdB, List.range_succ]
theorem chunk_len {size : Nat} {l : List Str} (hs : ∀ s ∈ l, s.length ≤ 25) (h2 : size ≤ 64) (q : Nat) : (bucketB (chunkS size l q)).length ≤ 1984 := by
  have h := bucketB_len (l := chunkS size l q) (fun s hs' => hs s (chunkS_mem hs'))
  rw [chunkS_len] at h
  omega
theorem hdB_len {size : Nat} {l : List Str} (hs : ∀ s ∈ l, s.length ≤ 25) (h2 : size ≤ 64) (hl : l.length ≤ 1000000) : ∀ q, (hdB size l q).length ≤ 10 + 10 * q
  | 0 => by
    have := numB_len64 (x := l.length) (by omega)
    simp [hdB]
    omega
  | q + 1 => by
    have ih := hdB_len hs h2 hl q
    have hc := chunk_len hs h2 q
    have := numB_len64 (x := (bucketB (chunkS size l q)).length) (by omega)
    rw [hdB_succ, List.length_append]
    omega
theorem bdB_len2 {size : Nat} {l : List Str} (hs : ∀ s ∈ l, s.length ≤ 25) (h1 : 1 ≤ size) : ∀ q, (bdB size l q).length ≤ 31 * min (q * size) l.length
  | 0 => by simp [bdB]
  | q + 1 => by
    have ih := bdB_len2 hs h1 q
    have hc := bucketB_len (l := chunkS size l q) (fun s hs' => hs s (chunkS_mem hs'))
    rw [chunkS_len] at hc
    rw [bdB_succ, List.length_append, Nat.add_mul, Nat.one_mul]
    omega
end Go.Proofs.YtcafklmbehoggaaGreatDoor.Idx
namespace Go.Proofs.YtcafklmbehoggaaGreatDoor.Idx
open Go.RowKit Go.Proofs.YtcafklmbehoggaaGreatDoor.Mem Go.Proofs.YtcafklmbehoggaaGreatDoor.Own Go.Proofs.YtcafklmbehoggaaGreatDoor.Canon
open Go.Proofs.YtcafklmbehoggaaGreatDoor.NumPut Go.Proofs.YtcafklmbehoggaaGreatDoor.Recs Go.Proofs.YtcafklmbehoggaaGreatDoor Go.Proofs.YtcafklmbehoggaaGreatDoor.Crc Go.Proofs.YtcafklmbehoggaaGreatDoor.Block
def fix4 (x : Nat) : List Nat := [x % 256, x / 256 % 256, x / 65536 % 256, x / 16777216 % 256]
def fixA (x : Nat) : Nat → Array Value
  | 0 => #[.int .u8 0, .int .u8 0, .int .u8 0, .int .u8 0]
  | 1 => #[.int .u8 ((x : Int) % 256), .int .u8 0, .int .u8 0, .int .u8 0]
  | 2 => #[.int .u8 ((x : Int) % 256), .int .u8 ((x : Int) / 256 % 256), .int .u8 0, .int .u8 0]
  | 3 => #[.int .u8 ((x : Int) % 256), .int .u8 ((x : Int) / 256 % 256), .int .u8 ((x : Int) / 65536 % 256), .int .u8 0]
  | _ => #[.int .u8 ((x : Int) % 256), .int .u8 ((x : Int) / 256 % 256), .int .u8 ((x : Int) / 65536 % 256), .int .u8 ((x : Int) / 16777216 % 256)]
theorem fixA_row (x : Nat) : (fixA x 4).toList = numL .u8 (fix4 x) := by
  simp [fixA, fix4, numL]
theorem info_u8f : (Tryz.prog.info? 5).map (fun i => (i.zero, i.size, i.bytes)) = some (some (.int .u8 0), 1, 1) := by kernel_rfl
theorem make_four (w : World) : (Instr.makeSlice 29 (.int .i64 4) (.int .i64 4)).run Tryz.prog w = .ok (.slice (some ⟨w.heap.size, 0, none⟩) 4 4) (w.alloc (.cells #[.int .u8 0, .int .u8 0, .int .u8 0, .int .u8 0] 5)) := by
  obtain ⟨i0, hi, hz0, hz1, hz2⟩ := info_parts info_u8f
  have h := run_make (P := Tryz.prog) w 29 5 i0 (.int .u8 0) Tryz.underlying29 hi hz0 .i64 .i64 (4 : Int) (4 : Int) (by omega) (Int.le_refl _) (by rw [hz2]; omega) (by omega)
  rw [h, hz1]
  have e : madeCells (Value.int IntKind.u8 0).cells (Int.toNat 4 * 1) = #[.int .u8 0, .int .u8 0, .int .u8 0, .int .u8 0] := by kernel_rfl
  rw [e]
  rfl
theorem u8_wrap (x : Int) : IntKind.u8.wrap x = x % 256 := IntKind.wrap_u8 x
set_option maxHeartbeats 1000000 in
set_option maxRecDepth 100000 in
theorem fixed4_any (w : World) (x : Nat) (hx : x < 4294967296) :
    Calls Tryz.prog 42 #[.int .u64 x, .int .i64 4] w fun e w' => ∃ v, e = .returned (.tuple #[v, .int .i64 0]) ∧ w'.ownsRow w.heap.size 5 1 v 4 (numL .u8 (fix4 x)) ∧ Below w.heap.size w w' := by
  have hd : (((x : Int) / 4294967296) != 0) = false := by simp; omega
  have hm := make_four
  have w0 := u8_wrap (x : Int)
  have w1 := u8_wrap ((x : Int) / 256)
  have w2 := u8_wrap ((x : Int) / 65536)
  have w3 := u8_wrap ((x : Int) / 16777216)
  go_enter Tryz.func42, Tryz.ntmps42
  go_wp2_with fail
  have HX0 : Hid (Blk (w.alloc (.cells #[.int .u8 0, .int .u8 0, .int .u8 0, .int .u8 0] 5)) w.heap.size 5 (fixA x 0)) := Blk.made _ _ _
  have HB0 : Hid (Below w.heap.size w (w.alloc (.cells #[.int .u8 0, .int .u8 0, .int .u8 0, .int .u8 0] 5))) := bel_alloc0 (Below.refl _ _)
  generalize w.alloc (.cells #[.int .u8 0, .int .u8 0, .int .u8 0, .int .u8 0] 5) = wa at *
  go_loopw [29] (fun iv wr => ∃ k : Nat, k ≤ 4 ∧ iv = .int .i64 k ∧ Hid (Blk wr w.heap.size 5 (fixA x k)) ∧ Hid (Below w.heap.size w wr)) (fun iv _ => 4 - (intOf iv).toNat)
  case atStart => exact ⟨0, by omega, rfl, HX0.out, HB0.out⟩
  case round =>
    obtain ⟨k, hk, rfl, HX, HB⟩ := hrel
    clear HX0 HB0 hm
    have hk5 : k = 0 ∨ k = 1 ∨ k = 2 ∨ k = 3 ∨ k = 4 := by omega
    rcases hk5 with rfl | rfl | rfl | rfl | rfl
    · have c := HX.out.cell 0
      have f := HX.out.frozen 0
      have HX2 : Hid (Blk (wr.setCell ⟨w.heap.size, 0, none⟩ (.int .u8 ((x : Int) % 256))) w.heap.size 5 (fixA x 1)) := HX.out.set 0 _
      have HB2 : Hid (Below w.heap.size w (wr.setCell ⟨w.heap.size, 0, none⟩ (.int .u8 ((x : Int) % 256)))) := bel_set (Nat.le_refl _) HB.out
      simp [fixA] at c
      clear HX HB
      go_wp2_with fail
      exact ⟨⟨1, by omega, rfl, HX2, HB2⟩, by simp [intOf]⟩
    · have c := HX.out.cell 1
      have f := HX.out.frozen 1
      have HX2 : Hid (Blk (wr.setCell ⟨w.heap.size, 1, none⟩ (.int .u8 ((x : Int) / 256 % 256))) w.heap.size 5 (fixA x 2)) := HX.out.set 1 _
      have HB2 : Hid (Below w.heap.size w (wr.setCell ⟨w.heap.size, 1, none⟩ (.int .u8 ((x : Int) / 256 % 256)))) := bel_set (Nat.le_refl _) HB.out
      simp [fixA] at c
      clear HX HB
      go_wp2_with fail
      exact ⟨⟨2, by omega, rfl, HX2, HB2⟩, by simp [intOf]⟩
    · have c := HX.out.cell 2
      have f := HX.out.frozen 2
      have HX2 : Hid (Blk (wr.setCell ⟨w.heap.size, 2, none⟩ (.int .u8 ((x : Int) / 65536 % 256))) w.heap.size 5 (fixA x 3)) := HX.out.set 2 _
      have HB2 : Hid (Below w.heap.size w (wr.setCell ⟨w.heap.size, 2, none⟩ (.int .u8 ((x : Int) / 65536 % 256)))) := bel_set (Nat.le_refl _) HB.out
      simp [fixA] at c
      clear HX HB
      go_wp2_with fail
      exact ⟨⟨3, by omega, rfl, HX2, HB2⟩, by simp [intOf]⟩
    · have c := HX.out.cell 3
      have f := HX.out.frozen 3
      have HX2 : Hid (Blk (wr.setCell ⟨w.heap.size, 3, none⟩ (.int .u8 ((x : Int) / 16777216 % 256))) w.heap.size 5 (fixA x 4)) := HX.out.set 3 _
      have HB2 : Hid (Below w.heap.size w (wr.setCell ⟨w.heap.size, 3, none⟩ (.int .u8 ((x : Int) / 16777216 % 256)))) := bel_set (Nat.le_refl _) HB.out
      simp [fixA] at c
      clear HX HB
      go_wp2_with fail
      exact ⟨⟨4, by omega, rfl, HX2, HB2⟩, by simp [intOf]⟩
    · go_wp2_with fail
      go_ret2
      refine ⟨_, rfl, ⟨rfl, .inr ⟨w.heap.size, 4, _, rfl, Nat.le_refl _, HX.out, by omega, by unfold maxLen; omega, rfl, ?_⟩⟩, HB.out⟩
      rw [← fixA_row]
      rfl
def fixL (x k : Nat) : List Nat := (List.range k).map fun i => x / 256 ^ i % 256
theorem fixL_four (x : Nat) : fixL x 4 = fix4 x := by simp [fixL, fix4, List.range_succ]
theorem fixL_succ (x k : Nat) : fixL x (k + 1) = fixL x k ++ [x / 256 ^ k % 256] := by simp [fixL, List.range_succ]
set_option maxHeartbeats 1000000 in
set_option maxRecDepth 100000 in
theorem rfixed4_any (w : World) (x : Nat) (hx : x < 4294967296) :
    Calls Tryz.prog 77 #[.int .u64 x, .int .i64 4] w fun e w' => ∃ v, e = .returned (.tuple #[v, .int .i64 0]) ∧ w'.ownsRow w.heap.size 5 1 v 4 (numL .u8 (fix4 x)) ∧ Below w.heap.size w w' := by
  obtain ⟨j0, hj0, hy0, hy1, hy2⟩ := info_parts info_u8f
  go_enter Tryz.func77, Tryz.ntmps77
  go_wp2_with fail
  go_loopw [0, 6, 7] (fun xv uv iv wr => ∃ k y : Nat, k ≤ 4 ∧ y < 4294967296 ∧ iv = .int .i64 k ∧ xv = .int .u64 y ∧ Hid (y = x / 256 ^ k) ∧ Hid (wr.ownsRow w.heap.size 5 1 uv k (numL .u8 (fixL x k))) ∧ Hid (Below w.heap.size w wr)) (fun _ _ iv _ => 4 - (intOf iv).toNat)
  case atStart => exact ⟨0, x, by omega, hx, rfl, rfl, (by show x = x / 256 ^ 0; simp), World.ownsRow_nil _ _ _ _, Below.refl _ _⟩
  case round =>
    obtain ⟨k, y, hk, hy, rfl, rfl, HY, HO, HB⟩ := hrel
    obtain ⟨wi, rfl⟩ : ∃ wi : World, wi = wr := ⟨_, rfl⟩
    obtain ⟨A1, c1, rfl⟩ := own_shape HO.out
    by_cases hlt : k < 4
    · have gk : decide ((k : Int) < 4) = true := by simp; omega
      have gk' : decide (k < 4) = true := by simp; omega
      have u1 : IntKind.u8.wrap ((y : Int) % 256) = ((y % 256 : Nat) : Int) := by rw [u8_wrap]; omega
      have hzi := HB.out.size
      have HY2 : Hid (y / 256 = x / 256 ^ (k + 1)) := by show _ = _; rw [HY.out, Nat.div_div_eq_div_mul, Nat.pow_succ]
      have HL : Hid (fixL x (k + 1) = fixL x k ++ [y % 256]) := by show _ = _; rw [fixL_succ, HY.out]
      clear HY
      go_wp2_with (at_builtin; refine wpList_app rfl (.tmp 19) (.tmp 23) 29 rfl w.heap.size 5 j0 _ 1 1 Tryz.underlying29 hj0 hy0 hy1 hy2 rfl (by decide) _ _ _ (by rfl) (HO.out.alloc _) _ 1 1 [.int .u8 (y % 256 : Nat)] (by rfl) (Src.of_blk (Blk.made_at _ _ _ (by simp)) 1 1 1 rfl) (by intro u hu; simp at hu; rcases hu with rfl; rfl) (by unfold maxLen; omega) (by omega) (by simp; omega) ?_; intro v6 w6 hown6 hg6 hat6; obtain ⟨A6, c6, rfl⟩ := own_shape hown6)
      have HO7 : Hid (w6.ownsRow w.heap.size 5 1 (.slice A6 (k + 1) c6) (k + 1) (numL .u8 (fixL x (k + 1)))) := by
        show World.ownsRow _ _ _ _ _ _ _
        rw [HL.out, show numL .u8 (fixL x k ++ [y % 256]) = numL .u8 (fixL x k) ++ [.int .u8 (y % 256 : Nat)] by simp [numL]]
        exact hown6
      have HB7 : Hid (Below w.heap.size w w6) := (bel_alloc hzi HB.out).grown hg6 (by simp; omega) (fun z hz => (World.ownsRow.lt HO.out z hz).1)
      clear hown6 hg6 hat6 HO HB HL
      go_roundw
      case measure => go_light; simp [intOf]; omega
      case rel => go_light; exact ⟨k + 1, y / 256, by omega, by omega, by first | rfl | go_num, by first | rfl | go_num, HY2.out, HO7.out, HB7.out⟩
    · obtain rfl : k = 4 := by omega
      have hy0' : y = 0 := by rw [HY.out]; exact Nat.div_eq_of_lt (by omega)
      subst hy0'
      clear HY
      go_wp2_with fail
      go_ret2
      exact ⟨_, rfl, by rw [← fixL_four]; exact HO.out, HB.out⟩
end Go.Proofs.YtcafklmbehoggaaGreatDoor.Idx
namespace Go.Proofs.YtcafklmbehoggaaGreatDoor.Ef
open Go.RowKit Go.Proofs.YtcafklmbehoggaaGreatDoor.Mem Go.Proofs.YtcafklmbehoggaaGreatDoor.Own Go.Proofs.YtcafklmbehoggaaGreatDoor.Canon Go.Proofs.YtcafklmbehoggaaGreatDoor.Huff Go.Proofs.YtcafklmbehoggaaGreatDoor.NumPut
structure Prt (w : World) (base g W : Nat) (hs ls : List Nat) (vH vL : Value) : Prop where
  blk : Blk w g 184 #[.int .i64 (W : Nat), vH, vL]
  oh : w.ownsRow base 3 1 vH hs.length (numL .i64 hs)
  ol : w.ownsRow base 190 1 vL ls.length (numL .u16 ls)
  gb : base ≤ g
theorem info_u16e : (Tryz.prog.info? 190).map (fun i => (i.zero, i.size, i.bytes)) = some (some (.int .u16 0), 1, 2) := by kernel_rfl
theorem info_inte : (Tryz.prog.info? 3).map (fun i => (i.zero, i.size, i.bytes)) = some (some (.int .i64 0), 1, 8) := by kernel_rfl
theorem Prt.highs {w w1 w3 : World} {base g W x : Nat} {hs ls : List Nat} {vH vL v3 : Value} (h : Prt w base g W hs ls vH vL) (hb : Below w.heap.size w w1) (hg : w1.grownBy w3 vH.ownBlock)
    (hown : w3.ownsRow base 3 1 v3 (hs.length + 1) (numL .i64 hs ++ [.int .i64 (x : Nat)])) : Prt (w3.setCell ⟨g, 1, none⟩ v3) base g W (hs ++ [x]) ls v3 vL := by
  have hne : vH.ownBlock ≠ some g := own_blk h.oh h.blk (by decide)
  have b1 := h.blk.step hb
  have b3 : Blk w3 g 184 #[.int .i64 (W : Nat), vH, vL] := b1.grown hg (Ne.symm hne)
  have o1 : w1.ownsRow base 190 1 vL ls.length (numL .u16 ls) := own_kept h.ol (fun y hy => hb.block y (World.ownsRow.lt h.ol y hy).2)
  have o3 : w3.ownsRow base 190 1 vL ls.length (numL .u16 ls) := own_kept o1 (fun y hy => hg.block y (World.ownsRow.lt o1 y hy).2 (fun e => by
    rcases own_apart h.oh h.ol (by decide) with e2 | e2
    · rw [e2] at e; cases e
    · exact e2 (by rw [← e, hy])))
  have hn3 : v3.ownBlock ≠ some g := own_blk hown b3 (by decide)
  have hnl : vL.ownBlock ≠ some g := own_blk o3 b3 (by decide)
  refine ⟨by simpa using b3.set 1 v3, ?_, own_kept o3 (fun y hy => Below.heap_setCell _ _ _ y (fun e => hnl (by rw [hy, e]))), h.gb⟩
  have e1 : numL .i64 (hs ++ [x]) = numL .i64 hs ++ [.int .i64 (x : Nat)] := by simp [numL]
  rw [List.length_append, e1]
  exact own_kept hown (fun y hy => Below.heap_setCell _ _ _ y (fun e => hn3 (by rw [hy, e])))
theorem Prt.lows {w w1 w3 : World} {base g W x : Nat} {hs ls : List Nat} {vH vL v3 : Value} (h : Prt w base g W hs ls vH vL) (hb : Below w.heap.size w w1) (hg : w1.grownBy w3 vL.ownBlock)
    (hown : w3.ownsRow base 190 1 v3 (ls.length + 1) (numL .u16 ls ++ [.int .u16 (x : Nat)])) : Prt (w3.setCell ⟨g, 2, none⟩ v3) base g W hs (ls ++ [x]) vH v3 := by
  have hne : vL.ownBlock ≠ some g := own_blk h.ol h.blk (by decide)
  have b1 := h.blk.step hb
  have b3 : Blk w3 g 184 #[.int .i64 (W : Nat), vH, vL] := b1.grown hg (Ne.symm hne)
  have o1 : w1.ownsRow base 3 1 vH hs.length (numL .i64 hs) := own_kept h.oh (fun y hy => hb.block y (World.ownsRow.lt h.oh y hy).2)
  have o3 : w3.ownsRow base 3 1 vH hs.length (numL .i64 hs) := own_kept o1 (fun y hy => hg.block y (World.ownsRow.lt o1 y hy).2 (fun e => by
    rcases own_apart h.ol h.oh (by decide) with e2 | e2
    · rw [e2] at e; cases e
    · exact e2 (by rw [← e, hy])))
  have hn3 : v3.ownBlock ≠ some g := own_blk hown b3 (by decide)
  have hnl : vH.ownBlock ≠ some g := own_blk o3 b3 (by decide)
  refine ⟨by simpa using b3.set 2 v3, own_kept o3 (fun y hy => Below.heap_setCell _ _ _ y (fun e => hnl (by rw [hy, e]))), ?_, h.gb⟩
  have e1 : numL .u16 (ls ++ [x]) = numL .u16 ls ++ [.int .u16 (x : Nat)] := by simp [numL]
  rw [List.length_append, e1]
  exact own_kept hown (fun y hy => Below.heap_setCell _ _ _ y (fun e => hn3 (by rw [hy, e])))
theorem wraps_i64 : ∀ n : Int, 0 ≤ n → n < 2 ^ 20 → IntKind.i64.wrap n = n := fun n h0 h1 => IntWalk.i64_in _ (by omega)
theorem low_mask (x W : Nat) (hx : x ≤ 100000) (hW : W ≤ 14) : IntKind.u16.wrap (bits .and .i64 (x : Int) (IntKind.i64.wrap (IntKind.i64.wrap (2 ^ W) - 1))) = ((x % 2 ^ W : Nat) : Int) := by
  have h1 : 2 ^ W ≤ 2 ^ 14 := Nat.pow_le_pow_right (by omega) hW
  have h0 : 1 ≤ 2 ^ W := Nat.one_le_two_pow
  have e0 : ((2 : Int) ^ W) = ((2 ^ W : Nat) : Int) := by simp
  have hlt : x % 2 ^ W < 2 ^ W := Nat.mod_lt _ (by omega)
  rw [e0, IntWalk.i64_in ((2 ^ W : Nat) : Int) (by omega)]
  have e1 : (((2 ^ W : Nat) : Int) - 1) = ((2 ^ W - 1 : Nat) : Int) := by omega
  rw [e1, IntWalk.i64_in ((2 ^ W - 1 : Nat) : Int) (by omega), (bits_nat .i64 20 (by decide) wraps_i64 x (2 ^ W - 1) (by omega) (by omega)).1, Nat.and_two_pow_sub_one_eq_mod, IntKind.wrap_u16]
  omega
set_option maxHeartbeats 2000000 in
set_option maxRecDepth 100000 in
theorem padd_any (w : World) (base g W : Nat) (hs ls : List Nat) (vH vL : Value) (x : Nat) (hx : x ≤ 100000) (hW : W ≤ 14) (hh : hs.length ≤ 100000) (hl : ls.length ≤ 100000) (hP : Prt w base g W hs ls vH vL) :
    Calls Tryz.prog 144 #[.pointer (some ⟨g, 0, none⟩), .int .i64 (x : Nat)] w fun e w' => e = .returned (.tuple #[]) ∧ ∃ vH' vL', Prt w' base g W (hs ++ [x / 2 ^ W]) (ls ++ [x % 2 ^ W]) vH' vL' ∧ Below base w w' := by
  obtain ⟨j0, hj0, hy0, hy1, hy2⟩ := info_parts info_inte
  obtain ⟨k0, hk0, hz0, hz1, hz2⟩ := info_parts info_u16e
  have c0 := hP.blk.cell 0
  have c1 := hP.blk.cell 1
  have c2 := hP.blk.cell 2
  have f1 := hP.blk.frozen 1
  have f2 := hP.blk.frozen 2
  simp only [List.getElem?_toArray, List.getElem?_cons_zero, List.getElem?_cons_succ] at c0 c1 c2
  have hgl := hP.blk.lt
  have hgb := hP.gb
  have hown := hP.oh
  have hne : some g ≠ vH.ownBlock := Ne.symm (own_blk hP.oh hP.blk (by decide))
  obtain ⟨p, hp⟩ : ∃ p, p = hs.length := ⟨_, rfl⟩
  obtain ⟨q, hq⟩ : ∃ q, q = ls.length := ⟨_, rfl⟩
  rw [← hp] at hown hh
  obtain ⟨AH, cH, rfl⟩ := own_shape hown
  have HP := Lib.hid hP
  have HPL := Lib.hid hp
  have HQL := Lib.hid hq
  have HLL := Lib.hid hl
  obtain ⟨hi, hhi⟩ : ∃ hi, hi = x / 2 ^ W := ⟨_, rfl⟩
  obtain ⟨lo, hlo⟩ : ∃ lo, lo = x % 2 ^ W := ⟨_, rfl⟩
  rw [← hhi, ← hlo]
  have eh : (x : Int) / 2 ^ W = (hi : Int) := by rw [hhi]; simp
  have el : IntKind.u16.wrap (bits .and .i64 (x : Int) (IntKind.i64.wrap (IntKind.i64.wrap (2 ^ W) - 1))) = (lo : Int) := by rw [hlo]; exact low_mask x W hx hW
  have HHI := Lib.hid hhi
  have HLO := Lib.hid hlo
  clear hP hp hq hhi hlo hl
  go_enter Tryz.func144, Tryz.ntmps144
  go_upto_region 0 with fail
  go_region_law ((refine step_append_lies _ (by rfl) _ _ _ (by rfl) base 3 j0 _ 1 8 Tryz.underlying42 hj0 hy0 hy1 hy2 rfl (by omega) (.slice AH p cH) p (numL .i64 hs) (by rfl) ((hown.alloc _).drew) ⟨w.heap.size, 0, none⟩ 1 1 [.int .i64 (hi : Nat)] (by rfl) (by rfl) (World.news_of_block (cs := #[.int .i64 (hi : Nat)]) (t := 3) (fr := (0, 0)) (heap_alloc_new w _)) (by intro u hu; simp at hu; subst hu; rfl) (by omega) (by unfold maxLen; omega) (by omega) (by simp; omega) (w.heap.size + 1) (by simp) ?_; intro g3 cap3 w3 hown3 hgrow hat hlt3; have gb : w3.heap[g]? = w.heap[g]? := (hgrow.block g (by simp; omega) hne).trans (Below.heap_alloc w _ g hgl); have p0 := (World.cell?_of_block (a := ⟨g, 0, none⟩) gb).trans c0; have p1 := (World.cell?_of_block (a := ⟨g, 1, none⟩) gb).trans c1; have p2 := (World.cell?_of_block (a := ⟨g, 2, none⟩) gb).trans c2; have q1 := (World.frozen?_of_block (a := ⟨g, 1, none⟩) gb).trans f1))
  all_goals
    have hP2 : Prt (w3.setCell ⟨g, 1, none⟩ (.slice (some ⟨g3, 0, none⟩) (p + 1) cap3)) base g W (hs ++ [hi]) ls (.slice (some ⟨g3, 0, none⟩) (p + 1) cap3) vL := HP.out.highs (bel_alloc0 (Below.refl _ w)).drew hgrow (by rw [← HPL.out]; exact hown3)
    have hB2 : Below base w (w3.setCell ⟨g, 1, none⟩ (.slice (some ⟨g3, 0, none⟩) (p + 1) cap3)) := (((Below.refl base w).alloc (by omega) _).drew.grown hgrow (by simp; omega) (fun y hy => (World.ownsRow.lt hown y hy).1)).setCell (p := ⟨g, 1, none⟩) hgb _
    generalize w3.setCell ⟨g, 1, none⟩ (.slice (some ⟨g3, 0, none⟩) (p + 1) cap3) = wb at *
    clear hown3 hgrow hat hlt3 gb p0 p1 p2 q1
    have HB2 := Lib.hid hB2
    have d0 := hP2.blk.cell 0
    have d2 := hP2.blk.cell 2
    have e2 := hP2.blk.frozen 2
    simp only [List.getElem?_toArray, List.getElem?_cons_zero, List.getElem?_cons_succ] at d0 d2
    have hgl2 := hP2.blk.lt
    have hown2 := hP2.ol
    have hne2 : some g ≠ vL.ownBlock := Ne.symm (own_blk hP2.ol hP2.blk (by decide))
    rw [← HQL.out] at hown2
    obtain ⟨AL, cL, rfl⟩ := own_shape hown2
    have HP2 := Lib.hid hP2
    have hql : q ≤ 100000 := by rw [HQL.out]; exact HLL.out
    clear hP2 hB2 c0 c1 c2 f1 f2 hne hown
    go_upto_region 1 with fail
    go_region_law ((refine step_append_lies _ (by rfl) _ _ _ (by rfl) base 190 k0 _ 1 2 Tryz.underlying182 hk0 hz0 hz1 hz2 rfl (by omega) (.slice AL q cL) q (numL .u16 ls) (by rfl) ((hown2.alloc _).drew) ⟨wb.heap.size, 0, none⟩ 1 1 [.int .u16 (lo : Nat)] (by rfl) (by rfl) (World.news_of_block (cs := #[.int .u16 (lo : Nat)]) (t := 190) (fr := (0, 0)) (heap_alloc_new wb _)) (by intro u hu; simp at hu; subst hu; rfl) (by omega) (by unfold maxLen; omega) (by omega) (by simp; omega) (wb.heap.size + 1) (by simp) ?_; intro g4 cap4 w4 hown4 hgrow4 hat4 hlt4; have gb : w4.heap[g]? = wb.heap[g]? := (hgrow4.block g (by simp; omega) hne2).trans (Below.heap_alloc wb _ g hgl2); have p0 := (World.cell?_of_block (a := ⟨g, 0, none⟩) gb).trans d0; have p2 := (World.cell?_of_block (a := ⟨g, 2, none⟩) gb).trans d2; have q2 := (World.frozen?_of_block (a := ⟨g, 2, none⟩) gb).trans e2))
    all_goals
      have hP4 : Prt (w4.setCell ⟨g, 2, none⟩ (.slice (some ⟨g4, 0, none⟩) (q + 1) cap4)) base g W (hs ++ [hi]) (ls ++ [lo]) (.slice (some ⟨g3, 0, none⟩) (p + 1) cap3) (.slice (some ⟨g4, 0, none⟩) (q + 1) cap4) := HP2.out.lows (bel_alloc0 (Below.refl _ wb)).drew hgrow4 (by rw [← HQL.out]; exact hown4)
      have hB4 : Below base w (w4.setCell ⟨g, 2, none⟩ (.slice (some ⟨g4, 0, none⟩) (q + 1) cap4)) := ((HB2.out.alloc (by omega) _).drew.grown hgrow4 (by simp; omega) (fun y hy => (World.ownsRow.lt hown2 y hy).1)).setCell (p := ⟨g, 2, none⟩) hgb _
      go_wp2_with fail
      go_end0
      exact ⟨rfl, _, _, hP4, hB4⟩
end Go.Proofs.YtcafklmbehoggaaGreatDoor.Ef
namespace Go.Proofs.YtcafklmbehoggaaGreatDoor.Ef
open Go.RowKit Go.Proofs.YtcafklmbehoggaaGreatDoor.Mem Go.Proofs.YtcafklmbehoggaaGreatDoor.Own Go.Proofs.YtcafklmbehoggaaGreatDoor.Canon Go.Proofs.YtcafklmbehoggaaGreatDoor.Huff Go.Proofs.YtcafklmbehoggaaGreatDoor.NumPut
open Go.Proofs.YtcafklmbehoggaaGreatDoor.Block (part_own)
theorem own_row {w : World} {base : Nat} {e : TypeId} {k : IntKind} {A : Option Addr} {n c : Nat} {ls : List Nat} (h : w.ownsRow base e 1 (.slice A n c) n (numL k ls)) (hn : ls.length = n) : Row w w.heap.size A n 1 (numF k ls) :=
  Row.of_own h rfl (fun i j hi hj => by have e0 : j = 0 := (by omega); subst e0; exact numL_get (by omega))
set_option maxHeartbeats 4000000 in
set_option maxRecDepth 100000 in
theorem write13_any (w : World) (bound : Nat) (A : Option Addr) (n c : Nat) (ls : List Nat) (hn : ls.length = n) (h1 : 1 ≤ n) (hnb : n ≤ bound) (hb : bound ≤ 20000) (hm : mayI bound none ls = true) (ha : Row w w.heap.size A n 1 (numF .i64 ls)) :
    Calls Tryz.prog 89 #[.int .i64 bound, .slice A n c] w fun e w' => ∃ v, e = .returned (.tuple #[v, .int .i64 0]) ∧ w'.ownsRow w.heap.size 5 1 v (efO bound ls).length (numL .u8 (efO bound ls)) ∧ Below w.heap.size w w' := by
  have HN := Lib.hid hn
  have HA := Lib.hid ha
  have DM := Lib.hid (rises13_any w bound A n c ls hn (by omega) ha)
  rw [hm] at DM
  have hq : 1 ≤ bound / n := (Nat.one_le_div_iff (by omega)).2 hnb
  have DN := Lib.hid (fun wx => num64_any wx n (by omega))
  have DW := Lib.hid (fun wx => width_any wx bound n h1 hnb (by omega))
  have hnl := numB_len64 (x := n) (by omega)
  have y1 : decide ((bound : Int) < 0) = false := by simp
  have y2 : decide ((20000 : Int) < (bound : Int)) = false := by simp; omega
  have y2' : decide (20000 < bound) = false := by simp; omega
  have u1 : IntKind.u64.wrap (n : Int) = (n : Int) := by rw [IntKind.wrap_u64]; omega
  have z1 : ((n : Int) == 0) = false := by simp; omega
  have hn0 : ¬ (n : Int) = 0 := by omega
  have HLT : Hid (∀ x ∈ ls, x < bound) := mayI_lt bound ls none hm
  have HRI : Hid (∀ (k x y : Nat), ls[k]? = some x → ls[k + 1]? = some y → x < y) := mayI_rise bound ls none hm
  have HE : Hid (efO bound ls = numB n ++ bytesOf (efBits (efW bound n) ls)) := by
    show _ = _
    unfold efO
    rw [if_neg (fun e => by rw [e] at hn; simp at hn; omega), hn]
  have hW15 : efW bound n ≤ 14 := by
    refine Decidable.byContradiction fun h => ?_
    have h2 : 2 ^ 15 ≤ 2 ^ efW bound n := Nat.pow_le_pow_right (by omega) (by omega)
    have h3 := log2_le (q := bound / n) (by omega)
    have h4 : bound / n ≤ bound := Nat.div_le_self _ _
    unfold efW at h2
    omega
  obtain ⟨W, hW⟩ : ∃ W, W = efW bound n := ⟨_, rfl⟩
  rw [← hW] at DW HE hW15
  clear hn ha hm hW hq
  go_enter Tryz.func89, Tryz.ntmps89
  go_wp2_with fail
  refine DM.out.mono ?_
  rintro e w1 ⟨rfl, rfl⟩
  obtain ⟨w, rfl⟩ : ∃ w : World, w = w1 := ⟨_, rfl⟩
  clear DM
  go_wp2_with fail
  refine (DN.out _).mono ?_
  rintro e w2 ⟨v2, rfl, ho2, hb2⟩
  obtain ⟨A2, c2, rfl⟩ := own_shape ho2
  have HB2 := Lib.hid hb2
  have HO2 := Lib.hid ho2
  clear ho2 hb2 DN
  go_wp2_with fail
  refine (DW.out _).mono ?_
  rintro e w3 ⟨rfl, rfl⟩
  go_wp2_with fail
  have hb4 : Below w3.heap.size w3 (w3.alloc (.cells #[.int .i64 W, .slice none 0 0, .slice none 0 0] 184)) := bel_alloc0 (Below.refl _ _)
  have HP4 : Hid (Prt (w3.alloc (.cells #[.int .i64 W, .slice none 0 0, .slice none 0 0] 184)) w3.heap.size w3.heap.size W ((ls.take 0).map (· / 2 ^ W)) ((ls.take 0).map (· % 2 ^ W)) (.slice none 0 0) (.slice none 0 0)) := ⟨Blk.made _ _ _, World.ownsRow_nil _ _ _ _, World.ownsRow_nil _ _ _ _, Nat.le_refl _⟩
  generalize w3.alloc (.cells #[.int .i64 W, .slice none 0 0, .slice none 0 0] 184) = w4 at *
  have HB4 := Lib.hid hb4
  clear hb4
  go_loopw [43] (fun iv wr => ∃ (k : Nat) (vH vL : Value), k ≤ n ∧ iv = .int .i64 k ∧ Hid (Prt wr w3.heap.size w3.heap.size W ((ls.take k).map (· / 2 ^ W)) ((ls.take k).map (· % 2 ^ W)) vH vL) ∧ Hid (Below w3.heap.size w3 wr)) (fun iv _ => n - (intOf iv).toNat)
  case atStart => exact ⟨0, _, _, by omega, rfl, HP4.out, HB4.out⟩
  case round =>
    obtain ⟨k, vH, vL, hk, rfl, HP, HB⟩ := hrel
    clear HP4 HB4
    obtain ⟨wi, rfl⟩ : ∃ wi : World, wi = wr := ⟨_, rfl⟩
    have HBT : Hid (Below w.heap.size w wi) := bel_step HB.out HB2.out.size HB2.out
    by_cases hlt : k < n
    · have har : Row wi w.heap.size A n 1 (numF .i64 ls) := HA.out.below HBT.out
      have gk : decide ((k : Int) < (n : Int)) = true := by simp; omega
      have gk' : decide (k < n) = true := by simp; omega
      have x0 : (0 : Int) ≤ (k : Int) := by omega
      have x1 : (k : Int) < (n : Int) := by omega
      obtain ⟨b, off, x, rfl, _, hx, ck⟩ := num_cell har HN.out hlt
      have hxb := HLT.out x (List.mem_of_getElem? hx)
      have D0 := padd_any wi w3.heap.size w3.heap.size W _ _ vH vL x (by omega) hW15 (by rw [List.length_map, List.length_take]; omega) (by rw [List.length_map, List.length_take]; omega) HP.out
      have e1 : (ls.take (k + 1)).map (· / 2 ^ W) = (ls.take k).map (· / 2 ^ W) ++ [x / 2 ^ W] := by rw [List.take_add_one, hx]; simp
      have e2 : (ls.take (k + 1)).map (· % 2 ^ W) = (ls.take k).map (· % 2 ^ W) ++ [x % 2 ^ W] := by rw [List.take_add_one, hx]; simp
      rw [← e1, ← e2] at D0
      have D := Lib.hid D0
      clear D0 e1 e2 hx hxb HP har
      go_wp2_with fail
      refine D.out.mono ?_
      rintro e w6 ⟨rfl, vH2, vL2, hP6, hb6⟩
      have HP6 := Lib.hid hP6
      have HB6 := Lib.hid (HB.out.trans hb6)
      clear hP6 hb6 D HB HBT
      go_wp2_with fail
      go_roundw
      case measure => go_light; simp [intOf]; omega
      case rel => go_light; exact ⟨k + 1, vH2, vL2, by omega, by first | rfl | go_num, HP6.out, HB6.out⟩
    · obtain rfl : k = n := by omega
      have gk : decide ((k : Int) < (k : Int)) = false := by simp
      have gk' : decide (k < k) = false := by simp
      have hall : ls.take k = ls := List.take_of_length_le (by rw [HN.out]; exact Nat.le_refl _)
      rw [hall] at HP
      obtain ⟨P, hP⟩ : ∃ P, P = 2 ^ W := ⟨_, rfl⟩
      rw [← hP] at HP
      have HPE := Lib.hid hP
      have hp1 : 1 ≤ P := by rw [hP]; exact Nat.one_le_two_pow
      obtain ⟨HS, hHS⟩ : ∃ HS, HS = ls.map (· / P) := ⟨_, rfl⟩
      obtain ⟨LS, hLS⟩ : ∃ LS, LS = ls.map (· % P) := ⟨_, rfl⟩
      rw [← hHS, ← hLS] at HP
      have hHl : HS.length = k := by rw [hHS, List.length_map]; exact HN.out
      have hLl : LS.length = k := by rw [hLS, List.length_map]; exact HN.out
      have oh := HP.out.oh
      have ol := HP.out.ol
      rw [hHl] at oh
      rw [hLl] at ol
      obtain ⟨AH, cH, rfl⟩ := own_shape oh
      obtain ⟨AL, cL, rfl⟩ := own_shape ol
      have RH := Lib.hid (own_row oh hHl)
      have RL := Lib.hid (own_row ol hLl)
      have b0 := HP.out.blk
      have d0 := (b0.alloc (.cells #[.slice none 0 0, .int .i64 0] 189)).cell 0
      have d1 := (b0.alloc (.cells #[.slice none 0 0, .int .i64 0] 189)).cell 1
      have d2 := (b0.alloc (.cells #[.slice none 0 0, .int .i64 0] 189)).cell 2
      simp only [List.getElem?_toArray, List.getElem?_cons_zero, List.getElem?_cons_succ] at d0 d1 d2
      have HHS := Lib.hid hHS
      have HLS := Lib.hid hLS
      have HHL := Lib.hid hHl
      have HLL := Lib.hid hLl
      have B0 := Lib.hid b0
      clear oh ol hHS hLS hHl hLl hP hall HP b0
      go_wp2_with fail
      have HW0 : Hid (Wr (fun q => q < wi.heap.size) (wi.alloc (.cells #[.slice none 0 0, .int .i64 0] 189)) wi.heap.size wi.heap.size 189 [] (lowsU W (ls.take 0)) (.slice none 0 0)) := Wr.start4 wi wi.heap.size _ [] (Nat.le_refl _) (fun q h => h)
      have HK0 : Hid (Kept (fun q => q < wi.heap.size) wi (wi.alloc (.cells #[.slice none 0 0, .int .i64 0] 189))) := Kept.of_below (bel_alloc0 (Below.refl _ _)) (fun q h => h)
      clear d0 d1 d2
      generalize wi.alloc (.cells #[.slice none 0 0, .int .i64 0] 189) = wz at *
      go_loopw [53] (fun iv wr => ∃ (j : Nat) (v' : Value), j ≤ k ∧ iv = .int .i64 j ∧ Hid (Wr (fun q => q < wi.heap.size) wr wi.heap.size wi.heap.size 189 [] (lowsU W (ls.take j)) v') ∧ Hid (Kept (fun q => q < wi.heap.size) wi wr)) (fun iv _ => k - (intOf iv).toNat)
      case atStart => exact ⟨0, _, by omega, rfl, HW0.out, HK0.out⟩
      case round =>
        obtain ⟨j, v', hj, rfl, HWr, HK⟩ := hrel
        clear HW0 HK0
        obtain ⟨wj, rfl⟩ : ∃ wj : World, wj = wr := ⟨_, rfl⟩
        by_cases hlt : j < k
        · have gk : decide ((j : Int) < (k : Int)) = true := by simp; omega
          have gk' : decide (j < k) = true := by simp; omega
          have x0 : (0 : Int) ≤ (j : Int) := by omega
          have x1 : (j : Int) < (k : Int) := by omega
          have hrl : Row wj wi.heap.size AL k 1 (numF .u16 LS) := RL.out.keep fun p hp => World.cell?_of_block (HK.out.block p.block hp)
          obtain ⟨b, off, x, rfl, _, hx, ck⟩ := num_cell hrl HLL.out hlt
          obtain ⟨y, hy⟩ : ∃ y, ls[j]? = some y := ⟨_, List.getElem?_eq_getElem (by have := HN.out; omega)⟩
          have hxy : x = y % P := by rw [HLS.out, List.getElem?_map, hy] at hx; exact (Option.some.inj hx).symm
          have hxP : x < P := by rw [hxy]; exact Nat.mod_lt _ (by omega)
          have hP2 : P ≤ 2 ^ 14 := by rw [HPE.out]; exact Nat.pow_le_pow_right (by omega) hW15
          have d0 : wj.cell? ⟨w3.heap.size, 0, none⟩ = some (.int .i64 (W : Nat)) := (World.cell?_of_block (a := ⟨w3.heap.size, 0, none⟩) (HK.out.block _ B0.out.lt)).trans (B0.out.cell 0)
          have u2 : IntKind.u64.wrap (x : Int) = (x : Int) := by rw [IntKind.wrap_u64]; omega
          have hll : (lowsU W (ls.take j)).length ≤ 400000 := by
            rw [lowsU_len, List.length_take]
            have h2 : min j ls.length * W ≤ 20000 * 14 := Nat.mul_le_mul (by omega) hW15
            omega
          have D0 := put_any (fun q => q < wi.heap.size) wj wi.heap.size wi.heap.size _ [] v' _ x W (by rw [← HPE.out]; exact hxP) (by omega) (by omega) HWr.out
          have hst : lowsU W (ls.take (j + 1)) = lowsU W (ls.take j) ++ msb x W W := by rw [List.take_add_one, hy, hxy, HPE.out]; exact lowsU_snoc W _ y
          rw [← hst] at D0
          have D := Lib.hid D0
          clear D0 hst hll hx hxy hy hxP hP2 HWr hrl
          go_wp2_with fail
          refine D.out.mono ?_
          rintro e w6 ⟨rfl, v6, hW6, hK6⟩
          have HW6 := Lib.hid hW6
          have HK6 : Hid (Kept (fun q => q < wi.heap.size) wi w6) := HK.out.trans hK6
          clear hW6 hK6 D HK d0 ck
          go_wp2_with fail
          go_roundw
          case measure => go_light; simp [intOf]; omega
          case rel => go_light; exact ⟨j + 1, v6, by omega, by first | rfl | go_num, HW6.out, HK6.out⟩
        · obtain rfl : j = k := by omega
          have gk : decide ((j : Int) < (j : Int)) = false := by simp
          have gk' : decide (j < j) = false := by simp
          have hall : ls.take j = ls := List.take_of_length_le (by rw [HN.out]; exact Nat.le_refl _)
          rw [hall] at HWr
          obtain ⟨BT, hBT⟩ : ∃ BT : Nat → List Bool, BT = fun i => lowsU W ls ++ highsU 0 ((ls.take i).map (· / P)) := ⟨_, rfl⟩
          have HBT := Lib.hid hBT
          have hb0 : BT 0 = lowsU W ls := by rw [hBT]; show lowsU W ls ++ highsU 0 ((ls.take 0).map (· / P)) = _; rw [List.take_zero, List.map_nil, highsU, List.append_nil]
          have HBITS : Hid (BT j = efBits W ls) := by show _ = _; rw [hBT]; show lowsU W ls ++ highsU 0 ((ls.take j).map (· / P)) = _; rw [hall, HPE.out]; rfl
          rw [← hb0] at HWr
          have HLB : Hid ((BT 0).length ≤ 300000) := by
            show _ ≤ _
            rw [hb0, lowsU_len, HN.out]
            have h2 : j * W ≤ 20000 * 14 := Nat.mul_le_mul (by omega) hW15
            omega
          have HU0 : Hid (0 = ((ls.take 0).map (· / P)).getLast?.getD 0) := rfl
          have HW0 := Lib.hid HWr.out
          have HK0 := Lib.hid HK.out
          have d1 : wj.cell? ⟨w3.heap.size, 1, none⟩ = some (.slice AH j cH) := (World.cell?_of_block (a := ⟨w3.heap.size, 1, none⟩) (HK.out.block _ B0.out.lt)).trans (B0.out.cell 1)
          clear HWr HK hall hBT hb0
          go_wp2_with fail
          clear d1
          go_loopw [13, 66] (fun uv iv wr => ∃ (i u : Nat) (v' : Value), i ≤ j ∧ u ≤ 20000 ∧ iv = .int .i64 i ∧ uv = .int .i64 u ∧ Hid (u = ((ls.take i).map (· / P)).getLast?.getD 0) ∧ Hid (Wr (fun q => q < wi.heap.size) wr wi.heap.size wi.heap.size 189 [] (BT i) v') ∧ Hid ((BT i).length ≤ 300000 + i + u) ∧ Hid (Kept (fun q => q < wi.heap.size) wi wr)) (fun _ iv _ => j - (intOf iv).toNat)
          case atStart => exact ⟨0, 0, _, by omega, by omega, rfl, rfl, HU0.out, HW0.out, HLB.out, HK0.out⟩
          case round =>
            obtain ⟨i, u, v2, hi, hu, rfl, rfl, HU, HWr, HLN, HK⟩ := hrel
            clear HW0 HLB HK0 HU0
            obtain ⟨wk, rfl⟩ : ∃ wk : World, wk = wr := ⟨_, rfl⟩
            by_cases hlt : i < j
            · have gk : decide ((i : Int) < (j : Int)) = true := by simp; omega
              have gk' : decide (i < j) = true := by simp; omega
              have x0 : (0 : Int) ≤ (i : Int) := by omega
              have x1 : (i : Int) < (j : Int) := by omega
              have hrh : Row wk wi.heap.size AH j 1 (numF .i64 HS) := RH.out.keep fun p hp => World.cell?_of_block (HK.out.block p.block hp)
              obtain ⟨b, off, q, rfl, _, hq, ck⟩ := num_cell hrh HHL.out hlt
              obtain ⟨x, hx⟩ : ∃ x, ls[i]? = some x := ⟨_, List.getElem?_eq_getElem (by have := HN.out; omega)⟩
              have hqx : q = x / P := by rw [HHS.out, List.getElem?_map, hx] at hq; exact (Option.some.inj hq).symm
              have hxb := HLT.out x (List.mem_of_getElem? hx)
              have hqb : q ≤ 20000 := by rw [hqx]; exact Nat.le_trans (Nat.div_le_self _ _) (by omega)
              have hle := last_div P hx HRI.out
              rw [← HU.out, ← hqx] at hle
              have hls := last_step P hx
              have hst := highsU_step P hx
              rw [← HU.out, ← hqx] at hst
              rw [← hqx] at hls
              obtain ⟨d, hd⟩ : ∃ d, d = q - u := ⟨_, rfl⟩
              rw [← hd] at hst
              have us : IntKind.i64.wrap ((q : Int) - (u : Int)) = (d : Int) := by rw [IntWalk.i64_in _ (by omega)]; omega
              have hll : (BT i).length ≤ 350000 := by have := HLN.out; omega
              have hdl : d ≤ 20000 := by omega
              have hst2 : BT (i + 1) = BT i ++ unary d := by rw [HBT.out]; show _ ++ _ = _ ++ _ ++ _; rw [hst, List.append_assoc]
              have HLN2 : Hid ((BT (i + 1)).length ≤ 300000 + (i + 1) + q) := by
                show _ ≤ _
                rw [hst2, List.length_append, unary_length]
                have := HLN.out
                omega
              have D0 := unary_any (fun q => q < wi.heap.size) wk wi.heap.size wi.heap.size _ [] v2 _ d (by omega) (by omega) HWr.out
              rw [← hst2] at D0
              have D := Lib.hid D0
              have HU2 : Hid (q = ((ls.take (i + 1)).map (· / P)).getLast?.getD 0) := hls.symm
              clear D0 hst hst2 hls hx hqx hq hd HWr HLN HU hrh hxb
              go_wp2_with fail
              refine D.out.mono ?_
              rintro e w6 ⟨rfl, v6, hW6, hK6⟩
              have HW6 := Lib.hid hW6
              have HK6 : Hid (Kept (fun q => q < wi.heap.size) wi w6) := HK.out.trans hK6
              clear hW6 hK6 D HK ck
              go_wp2_with fail
              go_roundw
              case measure => go_light; simp [intOf]; omega
              case rel => go_light; exact ⟨i + 1, q, v6, by omega, by omega, by first | rfl | go_num, by first | rfl | go_num, HU2.out, HW6.out, HLN2.out, HK6.out⟩
            · obtain rfl : i = j := by omega
              have gk : decide ((i : Int) < (i : Int)) = false := by simp
              have gk' : decide (i < i) = false := by simp
              obtain ⟨A3, c3, rfl⟩ := own_shape HWr.out.own
              obtain ⟨hn2, hr2, hnil2⟩ := HWr.out.rowOf
              have hg0 := HWr.out.blk.cell 0
              simp only [List.getElem?_toArray, List.getElem?_cons_zero] at hg0
              have hbl := bytesOf_length (BT i)
              have D := Lib.hid (wbytes_any wk wi.heap.size A3 _ c3 (bytesOf (BT i)) hn2 (by have := HLN.out; omega) hnil2 hg0 hr2)
              rw [HBITS.out] at D hbl
              have HBL : Hid ((bytesOf (efBits W ls)).length ≤ 100000) := by
                show _ ≤ _
                rw [hbl, ← HBITS.out]
                have := HLN.out
                omega
              have hb9 : Below w.heap.size w wk := (HB2.out.trans (HB.out.mono HB2.out.size)).trans ((HK.out.below (fun q h => h)).mono (by have := HB.out.size; have := HB2.out.size; omega))
              have HO9 : Hid (wk.ownsRow w.heap.size 5 1 (.slice A2 (numB i).length c2) (numB i).length (numL .u8 (numB i))) := own_kept HO2.out (fun y hy => ((HB.out.trans ((HK.out.below (fun q h => h)).mono HB.out.size)).block y (World.ownsRow.lt HO2.out y hy).2))
              have HB9 := Lib.hid hb9
              obtain ⟨BO, hBO⟩ : ∃ BO, BO = bytesOf (efBits W ls) := ⟨_, rfl⟩
              rw [← hBO] at D HE HBL
              clear hn2 hr2 hnil2 hg0 hbl HWr HLN HU hBO hb9
              go_wp2_with fail
              refine D.out.mono ?_
              rintro e w8 ⟨v8, rfl, ho8, hb8⟩
              obtain ⟨A8, c8, rfl⟩ := own_shape ho8
              have P1 : Hid (Part.Ok (⟨A2, c2, numB i⟩ : Part) w8) := part_own (own_kept HO9.out (fun y hy => hb8.block y (World.ownsRow.lt HO9.out y hy).2)) rfl
              have P2 : Hid (Part.Ok (⟨A8, c8, BO⟩ : Part) w8) := part_own ho8 rfl
              have HB8 := Lib.hid (bel_step hb8 HB9.out.size HB9.out)
              have hs2 : sumL [(⟨A2, c2, numB i⟩ : Part), ⟨A8, c8, BO⟩] ≤ 1000000 := by have := HBL.out; simp [sumL]; omega
              clear ho8 hb8 D HO9 HB9
              go_wp2_with fail
              refine (all_any _ _ 2 [(⟨A2, c2, numB i⟩ : Part), ⟨A8, c8, BO⟩] rfl (by omega) hs2 (fun p hp => by rcases List.mem_cons.1 hp with rfl | hp; exact P1.out.step (bel_alloc0 (Below.refl _ _)); rcases List.mem_cons.1 hp with rfl | hp; exact P2.out.step (bel_alloc0 (Below.refl _ _)); cases hp) (Blk.made _ _ _)).mono ?_
              rintro e w9 ⟨v9, rfl, ho9, hb9⟩
              go_wp2_with fail
              go_ret2
              refine ⟨v9, rfl, ?_, ?_⟩
              · rw [HE.out]
                have h := own_mono ho9 (show w.heap.size ≤ _ by have := HB8.out.size; simp; omega)
                simp only [List.flatMap_cons, List.flatMap_nil, List.append_nil] at h
                exact h
              · exact bel_step hb9 (by have := HB8.out.size; simp; omega) (bel_alloc HB8.out.size HB8.out)
end Go.Proofs.YtcafklmbehoggaaGreatDoor.Ef
