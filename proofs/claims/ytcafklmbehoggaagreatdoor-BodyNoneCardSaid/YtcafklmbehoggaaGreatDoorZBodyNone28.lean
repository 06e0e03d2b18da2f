/-
  The index of a log: the walk of post.Build. Plain: the bytes of an index, and how many they are. No walk. Plain: a body's bytes (chapter 20): frames, columns, index, directory. No walk. A body's directory: the walks of body.sum and (*body.directory).bytes. A body under way: the directory, the frames, their sizes; what an index of a log is. The reference's joined body: the walk of firkinref20.Join. An index's bytes by the document: the walks of the reference's May and Bytes (chapter 18). Plain: how many bytes a small log's index has. No walk.
-/
import Derived.Test.YtcafklmbehoggaaGreatDoorZBodyNone27
import Derived.Test.YtcafklmbehoggaaGreatDoorZBodyNone25
import Derived.Test.YtcafklmbehoggaaGreatDoorZBodyNone14
import Derived.Test.YtcafklmbehoggaaGreatDoorZBodyNone26
import Derived.Test.YtcafklmbehoggaaGreatDoorZBodyNone24
import Derived.Test.YtcafklmbehoggaaGreatDoorZBodyNone2
import Derived.Test.YtcafklmbehoggaaGreatDoorZBodyNone1
import Derived.Test.YtcafklmbehoggaaGreatDoorZBodyNone3
import Derived.Test.YtcafklmbehoggaaGreatDoorZBodyNone19
import Derived.Test.YtcafklmbehoggaaGreatDoorZBodyNone23
import Derived.Deep.RegionHeld3
import Derived.Deep.RegionLaw
import Derived.Deep.AppendLies
import Derived.BigGuardPart
namespace Go.Proofs.YtcafklmbehoggaaGreatDoor.Idx
open Go.RowKit Go.Maps Go.Proofs.YtcafklmbehoggaaGreatDoor.Mem Go.Proofs.YtcafklmbehoggaaGreatDoor.Own Go.Proofs.YtcafklmbehoggaaGreatDoor.Canon Go.Proofs.YtcafklmbehoggaaGreatDoor.Sift
open Go.Proofs.YtcafklmbehoggaaGreatDoor.Recs Go.Proofs.YtcafklmbehoggaaGreatDoor
def termsR (r : Rec) : List Str := terms r.text.data.toList r.source.data.toList
structure IxAt (w : World) (base : Nat) (vT vL : Value) (vals : List Value) (ts : List Str) (ls : List (List Nat)) : Prop where
  t : w.ownsRow base 9 1 vT ts.length (strL ts)
  l : w.ownsRow base 42 1 vL ls.length vals
  r : ∀ (i : Nat) v ids, vals[i]? = some v → ls[i]? = some ids → w.ownsRow base 3 1 v ids.length (numL .i64 ids)
def IxPost (ts : List (List Str)) (w : World) (e : Ending) (w' : World) : Prop :=
  ∃ vT vL vals, e = .returned (.agg #[vT, vL]) ∧ IxAt w' w.heap.size vT vL vals (allT ts) ((allT ts).map (idsT ts)) ∧ Below w.heap.size w w'
theorem info_int1 : (Tryz.prog.info? 3).map (fun i => (i.zero, i.size, i.bytes)) = some (some (.int .i64 0), 1, 8) := by kernel_rfl
theorem info_ints : (Tryz.prog.info? 42).map (fun i => (i.zero, i.size, i.bytes)) = some (some (.slice none 0 0), 1, 24) := by kernel_rfl
theorem term_small {r : Rec} {s : Str} (h : s ∈ termsR r) : 1 ≤ s.length ∧ s.length ≤ 25 := by
  unfold termsR at h
  rw [terms_mem] at h
  unfold rowT at h
  rcases List.mem_append.1 h with h | h
  · have := words_small _ s h; omega
  · obtain ⟨x, hx, rfl⟩ := List.mem_map.1 h
    have := words_small _ x hx
    simp only [List.length_cons]
    omega
theorem terms_len (t s : List UInt8) : (terms t s).length ≤ t.length + s.length := by
  have h1 := putAll_len (rowT t s) []
  have h2 := words_len t
  have h3 := words_len s
  unfold terms
  unfold rowT at h1
  rw [List.length_append, List.length_map] at h1
  unfold rowT
  simp only [List.length_nil] at h1
  omega
theorem idsT_le (ts : List (List Str)) (u : Str) : (idsT ts u).length ≤ ts.length := by
  unfold idsT
  exact Nat.le_trans (List.length_filter_le _ _) (by simp)
theorem own_grown' {w w' : World} {base base' s s' n n' : Nat} {e e' : TypeId} {v v' : Value} {xs xs' : List Value} (h : w.ownsRow base e s v n xs) (ho : w.ownsRow base' e' s' v' n' xs') (hne : e ≠ e') (hg : w.grownBy w' v'.ownBlock) : w'.ownsRow base e s v n xs :=
  own_kept h (fun y hy => hg.block y (World.ownsRow.lt h y hy).2 (fun e => by
    rcases own_apart h ho hne with h0 | h0
    · rw [h0] at hy; cases hy
    · exact h0 (hy.trans e)))
section
variable {H : Type} {P : Program} {kt : TypeId} {R : Value → Option (DataW H × List MemPlace)} {w w' : World} {mb m : Nat} {D : DataW H}
theorem own_map_kept {base s n : Nat} {e : TypeId} {v : Value} {xs : List Value} (hm : w.ownsMap P kt R mb m D) (ho : w.ownsRow base e s v n xs) (hg : w.grownBy w' (some mb)) : w'.ownsRow base e s v n xs :=
  own_kept ho fun b hb => hg.block b (World.ownsRow.lt ho b hb).2 fun he => by
    injection he with he
    subst he
    obtain ⟨es, clock, h1, _⟩ := hm
    rcases ho.2 with ⟨hv, _⟩ | ⟨g', cap, cur, hv, _, h2, _⟩
    · rw [hv] at hb; cases hb
    · rw [hv] at hb
      have hgg : g' = b := by simpa [Value.ownBlock] using hb
      rw [hgg, h1] at h2
      cases h2
theorem blk_map_kept {g : Nat} {t : TypeId} {cs : Array Value} (hm : w.ownsMap P kt R mb m D) (h : Blk w g t cs) (hg : w.grownBy w' (some mb)) : Blk w' g t cs :=
  h.grown hg fun he => by
    injection he with he
    subst he
    obtain ⟨es, clock, h1, _⟩ := hm
    have h2 : w.heap[g]? = some (.cells cs t) := h
    rw [h1] at h2
    cases h2
end
def idsJ (ts : List (List Str)) (T : List Str) (j : Nat) (s : Str) : List Nat := idsT ts s ++ (if s ∈ T.take j then [ts.length] else [])
theorem idsJ_zero (ts : List (List Str)) (T : List Str) : idsJ ts T 0 = idsT ts := by funext s; simp [idsJ]
theorem idsJ_all (ts : List (List Str)) (T : List Str) : idsJ ts T T.length = idsT (ts ++ [T]) := by
  funext s
  rw [idsT_snoc]
  unfold idsJ
  rw [List.take_length]
  simp
theorem idsJ_step {ts : List (List Str)} {T : List Str} (hT : Rising T) {j : Nat} {t : Str} (h : T[j]? = some t) : (fun s => if s = t then idsJ ts T j s ++ [ts.length] else idsJ ts T j s) = idsJ ts T (j + 1) := by
  have hnot : t ∉ T.take j := fun hm => by
    obtain ⟨i, hi, e⟩ := List.getElem_of_mem hm
    rw [List.length_take] at hi
    rw [List.getElem_take] at e
    obtain ⟨hj, e2⟩ := List.getElem?_eq_some_iff.1 h
    have := List.pairwise_iff_getElem.1 hT i j (by omega) hj (by omega)
    rw [e, e2] at this
    exact slt_irrefl t this
  funext s
  unfold idsJ
  rw [List.take_add_one, h]
  by_cases hs : s = t
  · subst hs
    rw [if_pos rfl, if_neg hnot]
    simp
  · rw [if_neg hs]
    simp [hs]
theorem idsT_ne (ts : List (List Str)) (s : Str) : s ∈ allT ts ↔ idsT ts s ≠ [] := by
  rw [allT_mem]
  unfold idsT
  rw [ne_eq, List.filter_eq_nil_iff]
  constructor
  · rintro ⟨t, ht, hs⟩ h
    obtain ⟨i, hi, rfl⟩ := List.getElem_of_mem ht
    have := h i (List.mem_range.2 hi)
    rw [List.getD_eq_getElem?_getD, List.getElem?_eq_getElem hi] at this
    simp at this
    exact this hs
  · intro h
    refine Decidable.byContradiction fun hn => h fun i hi => ?_
    rw [List.mem_range] at hi
    rw [List.getD_eq_getElem?_getD, List.getElem?_eq_getElem hi]
    simp only [Option.getD_some, List.contains_iff_mem]
    exact fun hm => hn ⟨_, List.getElem_mem hi, hm⟩
theorem map_size {H : Type} {P : Program} {kt : TypeId} {R : Value → Option (DataW H × List MemPlace)} {w : World} {mb m : Nat} {D : DataW H} (h : w.ownsMap P kt R mb m D) : Maps.size D ≤ m := by
  obtain ⟨es, clock, _, _, hs, rfl⟩ := h
  show (List.foldr DataW.insert [] _).length ≤ m
  rw [length_sorted, List.length_map]
  simpa using hs
structure St3 (w : World) (mb m base rb bo B2 : Nat) (D : DataW Value) (I : Str → List Nat) (V : Str → Value) (vS vT vL : Value) (q nT nL : Nat) (SS : List Str) : Prop where
  mi : MI w mb m base D I V
  res : Blk w rb 51 #[.slice none 0 0, .slice none 0 0]
  box : Blk w bo 51 #[vT, vL]
  ne : rb ≠ bo
  tt : w.ownsRow B2 9 1 vT nT (strL (SS.take nT))
  ll : w.ownsRow B2 42 1 vL nL ((SS.take nL).map V)
  ss : w.ownsRow base 9 1 vS q (strL SS)
  sg : ∀ g, vS.ownBlock = some g → g < B2
  b2 : base ≤ B2
  bz : B2 ≤ w.heap.size
section
variable {w w4 : World} {mb m base rb bo B2 q nT nL : Nat} {D : DataW Value} {I : Str → List Nat} {V : Str → Value} {vS vT vL v4 : Value} {SS : List Str} {o : Obj}
theorem St3.putT (h : St3 w mb m base rb bo B2 D I V vS vT vL q nT nL SS) (hg : (w.alloc o).grownBy w4 vT.ownBlock) (hown : w4.ownsRow B2 9 1 v4 (nT + 1) (strL (SS.take (nT + 1)))) :
    St3 (w4.setCell ⟨bo, 0, none⟩ v4) mb m base rb bo B2 D I V vS v4 vL q (nT + 1) nL SS := by
  have hbx : Blk w4 bo 51 #[vT, vL] := (h.box.alloc o).grown hg (fun e => own_blk h.tt h.box (by decide) e.symm)
  have hmap : w4.heap[mb]? = w.heap[mb]? := (hg.block mb (by have := h.mi.map.lt; simp; omega) (fun e => map_ne h.mi h.tt e.symm rfl)).trans (Below.heap_alloc w o mb h.mi.map.lt)
  have hm4 : MI w4 mb m base D I V := (h.mi.step (bel_alloc0 (Below.refl _ _) (o := o))).kept (hg.block mb (by have := h.mi.map.lt; simp; omega) (fun e => map_ne h.mi h.tt e.symm rfl)) fun s b hb => by
    refine hg.block b (by have := (World.ownsRow.lt (h.mi.row s) b hb).2; simp; omega) fun e => ?_
    rcases own_apart (h.mi.row s) h.tt (by decide) with h0 | h0
    · rw [h0] at hb; cases hb
    · exact h0 (hb.trans e)
  have hmb : mb ≠ bo := fun e => by
    obtain ⟨es, clock, h1, _⟩ := hm4.map
    have h2 : w4.heap[bo]? = some (.cells #[vT, vL] 51) := hbx
    rw [e, h2] at h1
    cases h1
  refine ⟨hm4.kept (Below.heap_setCell w4 _ _ mb hmb) fun s b hb => Below.heap_setCell w4 _ _ b (fun e => own_blk (hm4.row s) hbx (by decide) (hb.trans (congrArg some e))), ?_, ?_, h.ne, ?_, ?_, ?_, h.sg, h.b2, ?_⟩
  · exact ((h.res.alloc o).grown hg (fun e => own_blk h.tt h.res (by decide) e.symm)).far h.ne _
  · exact hbx.set 0 v4
  · exact own_set hown (own_blk hown hbx (by decide)) _
  · have := own_grown' (h.ll.alloc o) (h.tt.alloc o) (by decide) hg
    exact own_set this (own_blk this hbx (by decide)) _
  · have : w4.ownsRow base 9 1 vS q (strL SS) := own_kept h.ss fun b hb => (hg.block b (by have := (World.ownsRow.lt h.ss b hb).2; simp; omega) (fun e => by have h1 := h.sg b hb; have h2 := (World.ownsRow.lt h.tt b e.symm).1; omega)).trans (Below.heap_alloc w o b (World.ownsRow.lt h.ss b hb).2)
    exact own_set this (own_blk this hbx (by decide)) _
  · have h1 := hg.size
    have h2 := h.bz
    simp at h1 ⊢
    omega
theorem St3.putL (h : St3 w mb m base rb bo B2 D I V vS vT vL q nT nL SS) (hg : (w.alloc o).grownBy w4 vL.ownBlock) (hown : w4.ownsRow B2 42 1 v4 (nL + 1) ((SS.take (nL + 1)).map V)) :
    St3 (w4.setCell ⟨bo, 1, none⟩ v4) mb m base rb bo B2 D I V vS vT v4 q nT (nL + 1) SS := by
  have hbx : Blk w4 bo 51 #[vT, vL] := (h.box.alloc o).grown hg (fun e => own_blk h.ll h.box (by decide) e.symm)
  have hm4 : MI w4 mb m base D I V := (h.mi.step (bel_alloc0 (Below.refl _ _) (o := o))).kept (hg.block mb (by have := h.mi.map.lt; simp; omega) (fun e => map_ne h.mi h.ll e.symm rfl)) fun s b hb => by
    refine hg.block b (by have := (World.ownsRow.lt (h.mi.row s) b hb).2; simp; omega) fun e => ?_
    rcases own_apart (h.mi.row s) h.ll (by decide) with h0 | h0
    · rw [h0] at hb; cases hb
    · exact h0 (hb.trans e)
  have hmb : mb ≠ bo := fun e => by
    obtain ⟨es, clock, h1, _⟩ := hm4.map
    have h2 : w4.heap[bo]? = some (.cells #[vT, vL] 51) := hbx
    rw [e, h2] at h1
    cases h1
  refine ⟨hm4.kept (Below.heap_setCell w4 _ _ mb hmb) fun s b hb => Below.heap_setCell w4 _ _ b (fun e => own_blk (hm4.row s) hbx (by decide) (hb.trans (congrArg some e))), ?_, ?_, h.ne, ?_, ?_, ?_, h.sg, h.b2, ?_⟩
  · exact ((h.res.alloc o).grown hg (fun e => own_blk h.ll h.res (by decide) e.symm)).far h.ne _
  · exact hbx.set 1 v4
  · have := own_grown' (h.tt.alloc o) (h.ll.alloc o) (by decide) hg
    exact own_set this (own_blk this hbx (by decide)) _
  · exact own_set hown (own_blk hown hbx (by decide)) _
  · have := own_grown' (h.ss.alloc o) (h.ll.alloc o) (by decide) hg
    exact own_set this (own_blk this hbx (by decide)) _
  · have h1 := hg.size
    have h2 := h.bz
    simp at h1 ⊢
    omega
end
set_option maxHeartbeats 4000000 in
set_option maxRecDepth 100000 in
theorem build_any (w : World) (A : Option Addr) (n c : Nat) (l : List Rec) (hn : l.length = n) (hN : n ≤ 20000) (hsz : ∀ r ∈ l, r.source.size ≤ 50000 ∧ r.text.size ≤ 50000) (ha : Row w w.heap.size A n 4 (recF l)) :
    Calls Tryz.prog 40 #[.slice A n c] w (IxPost (l.map termsR) w) := by
  obtain ⟨j0, hj0, hy0, hy1, hy2⟩ := info_parts info_int1
  have HN := Lib.hid hn
  have D1 : Hid (∀ wx r, r ∈ l → Calls Tryz.prog 90 #[.agg #[.int .u64 r.time, .int .u8 r.level, .string r.source, .string r.text]] wx (TermsPost (termsR r) wx)) := fun wx r hr => sterms_any wx r.time r.level r.source r.text (hsz r hr).1 (hsz r hr).2
  have HTL : Hid (∀ r ∈ l, (termsR r).length ≤ 100000) := fun r hr => by
    have := terms_len r.text.data.toList r.source.data.toList
    have h1 := Lib.size_eq r.text
    have h2 := Lib.size_eq r.source
    have := hsz r hr
    unfold termsR
    omega
  have hmm := @run_makeMap Tryz.prog
  unfold TermsPost at D1
  unfold IxPost
  clear hn hsz
  go_enter Tryz.func40, Tryz.ntmps40
  go_wp2_with fail
  have hbx : Blk (w.alloc (.cells #[.slice none 0 0, .slice none 0 0] 51)) w.heap.size 51 #[.slice none 0 0, .slice none 0 0] := Blk.made _ _ _
  have hb0 : Below w.heap.size w (w.alloc (.cells #[.slice none 0 0, .slice none 0 0] 51)) := bel_alloc0 (Below.refl _ _)
  have hz0 : (w.alloc (.cells #[.slice none 0 0, .slice none 0 0] 51)).heap.size = w.heap.size + 1 := by simp
  generalize w.alloc (.cells #[.slice none 0 0, .slice none 0 0] 51) = w1 at *
  rw [← hz0]
  have HM2 : Hid (MI (w1.alloc (.map #[] 0)) w1.heap.size 0 w.heap.size (.map []) (fun _ => []) (fun _ => .slice none 0 0)) := MI.start w1 w.heap.size
  have HX2 := Lib.hid (hbx.alloc (.map #[] 0))
  have HB2 : Hid (Below w.heap.size w (w1.alloc (.map #[] 0))) := bel_alloc0 hb0
  obtain ⟨mb, hmb⟩ : ∃ mb, mb = w1.heap.size := ⟨_, rfl⟩
  rw [← hmb] at HM2 ⊢
  have HMB : Hid (w.heap.size ≤ mb) := by show _ ≤ _; rw [hmb]; exact hb0.size
  generalize w1.alloc (.map #[] 0) = w2 at *
  clear hbx hb0 hz0 hmb hmm
  go_loopw [14] (fun iv wr => ∃ (k m : Nat) (D : DataW Value) (V : Str → Value), k ≤ n ∧ m ≤ 100000 * k ∧ iv = .int .i64 k ∧ Hid (MI wr mb m w.heap.size D (idsT ((l.take k).map termsR)) V) ∧ Hid (Blk wr w.heap.size 51 #[.slice none 0 0, .slice none 0 0]) ∧ Hid (Below w.heap.size w wr)) (fun iv _ => n - (intOf iv).toNat)
  case atStart => exact ⟨0, 0, .map [], fun _ => .slice none 0 0, by omega, by omega, rfl, HM2.out, HX2.out, HB2.out⟩
  case round =>
    obtain ⟨k, m, D, V, hk, hm, rfl, HM, HX, HB⟩ := hrel
    clear HM2 HX2 HB2
    obtain ⟨w0, rfl⟩ : ∃ w0 : World, w0 = wr := ⟨_, rfl⟩
    by_cases hlt : k < n
    · have gk : decide ((k : Int) < (n : Int)) = true := by simp; omega
      have gk' : decide (k < n) = true := by simp; omega
      have x0 : (0 : Int) ≤ (k : Int) := by omega
      have x1 : (k : Int) < (n : Int) := by omega
      obtain ⟨b, off, r, rfl, hbb, hg, c0, c1, c2, c3⟩ := Row.rec (ha.below HB.out) HN.out hlt
      have hrl := List.mem_of_getElem? hg
      have E1 := Lib.hid (fun wx => D1.out wx r hrl)
      have hTL := HTL.out r hrl
      have hTR : Rising (termsR r) := terms_rising _ _
      have hTS : ∀ s ∈ termsR r, 1 ≤ s.length ∧ s.length ≤ 25 := fun s hs => term_small hs
      have hTK : (l.take (k + 1)).map termsR = (l.take k).map termsR ++ [termsR r] := by rw [List.take_add_one, hg, List.map_append]; rfl
      have hkl : ((l.take k).map termsR).length = k := by rw [List.length_map, List.length_take, HN.out]; omega
      obtain ⟨TS, hTSe⟩ : ∃ TS, TS = (l.take k).map termsR := ⟨_, rfl⟩
      rw [← hTSe] at hTK hkl HM
      have HTK := Lib.hid hTK
      have HKL := Lib.hid hkl
      have HTR := Lib.hid hTR
      have HTS := Lib.hid hTS
      clear hg hrl hTR hTS hTK hkl hTSe
      generalize termsR r = T at *
      obtain ⟨q, hq⟩ : ∃ q, q = T.length := ⟨_, rfl⟩
      rw [← hq] at E1 hTL
      have HQ := Lib.hid hq
      clear hq
      go_wp2_with fail
      have hb3 : Below w0.heap.size w0 (w0.alloc (.cells #[.int .u64 r.time, .int .u8 r.level, .string r.source, .string r.text] 66)) := bel_alloc0 (Below.refl _ _)
      generalize w0.alloc (.cells #[.int .u64 r.time, .int .u8 r.level, .string r.source, .string r.text] 66) = w3 at *
      have HM3 := Lib.hid (HM.out.step hb3)
      have HX3 := Lib.hid (HX.out.step hb3)
      have HB3 : Hid (Below w.heap.size w w3) := bel_step0 hb3 HB.out
      clear hb3 HM HX HB c0 c1 c2 c3
      refine (E1.out _).mono ?_
      rintro e w4 ⟨v4, rfl, ho4, hb4⟩
      obtain ⟨A4, c4, rfl⟩ := own_shape ho4
      have HM4 := Lib.hid (HM3.out.step hb4)
      have HX4 := Lib.hid (HX3.out.step hb4)
      have HB4 : Hid (Below w.heap.size w w4) := bel_step0 hb4 HB3.out
      have HO4 := Lib.hid ho4
      have hz34 := hb4.size
      have hz4 := HB4.out.size
      clear hb4 ho4 E1 HM3 HX3 HB3
      go_wp2_with fail
      go_loopw [22] (fun jv wr => ∃ (j m' : Nat) (D' : DataW Value) (V' : Str → Value), j ≤ q ∧ m' ≤ m + j ∧ jv = .int .i64 j ∧ Hid (MI wr mb m' w.heap.size D' (idsJ TS T j) V') ∧ Hid (wr.ownsRow w3.heap.size 9 1 (.slice A4 q c4) q (strL T)) ∧ Hid (Blk wr w.heap.size 51 #[.slice none 0 0, .slice none 0 0]) ∧ Hid (Below w.heap.size w wr)) (fun jv _ => q - (intOf jv).toNat)
      case atStart => exact ⟨0, m, D, V, by omega, by omega, rfl, (by show MI _ _ _ _ _ _ _; rw [idsJ_zero]; exact HM4.out), HO4.out, HX4.out, HB4.out⟩
      case round =>
        obtain ⟨j, m', D', V', hj, hm', rfl, HM, HO, HX, HB⟩ := hrel
        clear HM4 HO4 HX4 HB4 hz34 hz4
        obtain ⟨wi, rfl⟩ : ∃ wi : World, wi = wr := ⟨_, rfl⟩
        by_cases hjl : j < q
        · have gj : decide ((j : Int) < (q : Int)) = true := by simp; omega
          have gj' : decide (j < q) = true := by simp; omega
          have y0 : (0 : Int) ≤ (j : Int) := by omega
          have y1 : (j : Int) < (q : Int) := by omega
          obtain ⟨t, ht⟩ : ∃ t, T[j]? = some t := ⟨_, List.getElem?_eq_getElem (by have := HQ.out; omega)⟩
          obtain ⟨g, cg, hAg, hbg, _⟩ := HO.out.form (by omega)
          injection hAg with hA1 hA2 hA3
          subst hA1 hA3
          have ck : wi.cell? ⟨g, j, none⟩ = some (.string (bs t)) := by rw [HO.out.cellAt j (by omega)]; exact strL_get ht
          have hts := HTS.out t (List.mem_of_getElem? ht)
          have hst := idsJ_step (ts := TS) HTR.out ht
          rw [HKL.out] at hst
          have HST := Lib.hid hst
          obtain ⟨A5, c5, hV⟩ := own_shape (HM.out.row t)
          have hlk := HM.out.look t (by unfold maxLen; omega)
          have hrow := HM.out.row t
          rw [hV] at hlk hrow
          have hpl : (idsJ TS T j t).length ≤ 20001 := by
            have h1 := idsT_le TS t
            have h2 := HKL.out
            unfold idsJ
            rw [List.length_append]
            split
            · simp only [List.length_singleton]; omega
            · simp only [List.length_nil]; omega
          obtain ⟨p, hp⟩ : ∃ p, p = (idsJ TS T j t).length := ⟨_, rfl⟩
          have HPE := Lib.hid hp
          rw [← hp] at hlk hrow hpl hV
          have HROW := Lib.hid hrow
          have HV := Lib.hid hV
          have HTS2 := Lib.hid hts
          have hzi := HB.out.size
          have hmm : m' < maxLen := by unfold maxLen; omega
          clear ht hts hst hV hrow hp HQ
          go_wp2_with (at_builtin; refine wpList_app rfl (.tmp 30) (.tmp 32) 42 rfl w.heap.size 3 j0 _ 1 8 Tryz.underlying42 hj0 hy0 hy1 hy2 rfl (by decide) _ _ _ (by rfl) (HROW.out.alloc _) _ 1 1 [.int .i64 (k : Nat)] (by rfl) (Src.of_blk (Blk.made _ _ _) 1 1 1 rfl) (by intro u hu; simp at hu; rcases hu with rfl; rfl) (by unfold maxLen; omega) (by omega) (by simp; omega) ?_; intro v6 w6 hown6 hg6 hat6; have hne : (some mb : Option Nat) ≠ (Value.slice A5 p c5).ownBlock := (fun e => map_ne HM.out HROW.out e.symm rfl); have hm6 := (HM.out.map.alloc (.cells #[.int .i64 (k : Nat)] 3)).kept hg6 hne; obtain ⟨w7, hrun, hm7, hg7⟩ := hm6.update (string_keyed Tryz.underlying9) Tryz.underlying129 hmm (keyStr t (by have := HTS2.out; unfold maxLen; omega)) (show heldR v6 = some (.held v6, []) from rfl); have H6 := Lib.hid (And.intro hown6 (And.intro hg6 (And.intro hat6 hm6))); have H7 := Lib.hid (And.intro hm7 hg7); clear hown6 hg6 hat6 hne hm6 hm7 hg7)
          have HMI : Hid (MI w7 mb (m' + 1) w.heap.size (D'.put (.string t) (.held v6)) (idsJ TS T (j + 1)) (fun s => if s = t then v6 else V' s)) := by
            show MI _ _ _ _ _ _ _
            rw [← HST.out]
            exact MI.put HM.out HTS2.out.2 (bel_alloc0 (Below.refl _ _)) (by rw [HV.out]; exact H6.out.2.1) (by rw [← HPE.out]; exact H6.out.1) (by rw [HV.out]; exact H6.out.2.2.1.imp_right fun e => ⟨_, e, Nat.le_refl _⟩) H7.out.1 H7.out.2
          have HO7 : Hid (w7.ownsRow w3.heap.size 9 1 (.slice (some ⟨g, 0, none⟩) q c4) q (strL T)) := own_map_kept H6.out.2.2.2 (own_grown' (HO.out.alloc _) (HROW.out.alloc _) (by decide) H6.out.2.1) H7.out.2
          have HX7 : Hid (Blk w7 w.heap.size 51 #[.slice none 0 0, .slice none 0 0]) := blk_map_kept H6.out.2.2.2 ((HX.out.alloc _).grown H6.out.2.1 (fun e => own_blk HROW.out HX.out (by decide) e.symm)) H7.out.2
          have HB7 : Hid (Below w.heap.size w w7) := ((bel_alloc hzi HB.out).grown H6.out.2.1 (by simp; omega) (fun y hy => (World.ownsRow.lt HROW.out y hy).1)).grown H7.out.2 (by have := (bel_alloc (o := .cells #[.int .i64 (k : Nat)] 3) hzi HB.out).size; have := H6.out.2.1.size; omega) (fun y hy => by injection hy with hy; rw [← hy]; exact HMB.out)
          clear H6 H7 HM HO HX HB HROW HV HST
          go_roundw
          case measure => go_light; simp [intOf]; omega
          case rel => go_light; exact ⟨j + 1, m' + 1, _, _, by omega, by omega, by first | rfl | go_num, HMI.out, HO7.out, HX7.out, HB7.out⟩
        · obtain rfl : j = q := by omega
          have gj : decide ((j : Int) < (j : Int)) = false := by simp
          have gj' : decide (j < j) = false := by simp
          have HMI : Hid (MI wi mb m' w.heap.size D' (idsT ((l.take (k + 1)).map termsR)) V') := by
            show MI _ _ _ _ _ _ _
            rw [HTK.out, ← idsJ_all, ← HQ.out]
            exact HM.out
          clear HM HQ
          go_wp2_with fail
          go_roundw
          case measure => go_light; simp [intOf]; omega
          case rel => go_light; exact ⟨k + 1, m', D', V', by omega, by omega, by first | rfl | go_num, HMI.out, HX.out, HB.out⟩
    · obtain rfl : k = n := by omega
      have gk : decide ((k : Int) < (k : Int)) = false := by simp
      have gk' : decide (k < k) = false := by simp
      have hall : l.take k = l := List.take_of_length_le (by rw [HN.out]; exact Nat.le_refl _)
      rw [hall] at HM
      have hlen : (l.map termsR).length = k := by rw [List.length_map, HN.out]
      obtain ⟨TS, hTS⟩ : ∃ TS, TS = l.map termsR := ⟨_, rfl⟩
      rw [← hTS] at HM hlen
      have HTSE := Lib.hid hTS
      have HLEN := Lib.hid hlen
      clear hall hTS hlen D1 HTL ha
      have hbx : Blk (w0.alloc (.cells #[.slice none 0 0, .slice none 0 0] 51)) w0.heap.size 51 #[.slice none 0 0, .slice none 0 0] := Blk.made _ _ _
      have hb1 : Below w0.heap.size w0 (w0.alloc (.cells #[.slice none 0 0, .slice none 0 0] 51)) := bel_alloc0 (Below.refl _ _)
      obtain ⟨bo, hbo⟩ : ∃ bo, bo = w0.heap.size := ⟨_, rfl⟩
      go_wp2_with fail
      rw [← hbo] at hbx ⊢
      have hbl : w.heap.size < bo := by rw [hbo]; exact HX.out.lt
      generalize w0.alloc (.cells #[.slice none 0 0, .slice none 0 0] 51) = w3 at *
      have HM3 := Lib.hid (HM.out.step hb1)
      have HX3 := Lib.hid (HX.out.step hb1)
      have HB3 : Hid (Below w.heap.size w w3) := bel_step0 hb1 HB.out
      have HBX3 := Lib.hid hbx
      have hms := map_size HM3.out.map
      have hm2 : m ≤ 2000000000 := by omega
      have DK := Lib.hid (callsIn_wide.1 (Tryz.maps_Keys_92 (some mb) w3))
      have DS := Lib.hid (callsIn_wide.1 (Tryz.slices_Sorted_keys_91_92 mb m D heldR w3 HM3.out.map (by unfold maxLen; omega) (by omega)))
      clear hb1 hbx HM HX HB hbo
      refine DK.out.mono ?_
      rintro e w4 ⟨rfl, rfl⟩
      clear DK
      go_wp2_with fail
      refine DS.out.mono ?_
      rintro e w5 ⟨vS, ss, rfl, hperm, hown, hnil, hb5⟩
      have hkeys := HM3.out.keys hperm (allT_rising TS) (idsT_ne TS)
      have hql : ss.length = (allT TS).length := by rw [← hkeys]; exact (List.length_mergeSort ss).symm
      rw [hql, show ss.mergeSort (fun x y => decide (x ≤ y)) = allT TS from hkeys, strL_enc] at hown
      have hb35 : Below w3.heap.size w3 w5 := bel_step0 hb5 (bel_alloc0 (Below.refl _ _))
      have hown5 : w5.ownsRow w.heap.size 9 1 vS (allT TS).length (strL (allT TS)) := own_mono hown (by have := HB3.out.size; simp; omega)
      obtain ⟨SS, hSS⟩ : ∃ SS, SS = allT TS := ⟨_, rfl⟩
      rw [← hSS] at hown5
      have hqm : SS.length ≤ 2000000000 := by
        rw [hSS, ← hql, hperm.length_eq]
        refine Nat.le_trans ?_ (Nat.le_trans hms hm2)
        unfold strKeys Maps.size
        cases D <;> simp
      obtain ⟨q, hq⟩ : ∃ q, q = SS.length := ⟨_, rfl⟩
      rw [← hq] at hown5 hqm
      obtain ⟨AS, cS, rfl⟩ := own_shape hown5
      have HS5 : Hid (St3 w5 mb m w.heap.size w.heap.size bo w5.heap.size D (idsT TS) V (.slice AS q cS) (.slice none 0 0) (.slice none 0 0) q 0 0 SS) :=
        ⟨HM3.out.step hb35, HX3.out.step hb35, HBX3.out.step hb35, by omega, World.ownsRow_nil _ _ _ _, World.ownsRow_nil _ _ _ _, hown5, fun g hg => (World.ownsRow.lt hown5 g hg).2, by have := HB3.out.size; have := hb35.size; omega, Nat.le_refl _⟩
      have HB5 : Hid (Below w.heap.size w w5) := bel_step0 hb35 HB3.out
      have HQ := Lib.hid hq
      have HSSE := Lib.hid hSS
      have HLG : Hid (∀ s ∈ SS, s.length ≤ 25) := fun s hs => HM3.out.long s ((idsT_ne TS s).1 (by rw [← HSSE.out]; exact hs))
      have HIL : Hid (∀ s, (idsT TS s).length ≤ 20000) := fun s => by have h1 := idsT_le TS s; have h2 := HLEN.out; omega
      obtain ⟨B2, hB2⟩ : ∃ B2, B2 = w5.heap.size := ⟨_, rfl⟩
      rw [← hB2] at HS5
      clear hperm hown hnil hb5 hkeys hql hb35 hown5 hq hSS DS HM3 HX3 HBX3 HB3 hB2 hms hm2
      obtain ⟨i0, hi0, hx0, hx1, hx2⟩ := info_parts info_str
      obtain ⟨i1, hi1, hw0, hw1, hw2⟩ := info_parts info_ints
      go_wp2_with fail
      go_loopw [40] (fun iv wr => ∃ (k2 : Nat) (vT vL : Value), k2 ≤ q ∧ iv = .int .i64 k2 ∧ Hid (St3 wr mb m w.heap.size w.heap.size bo B2 D (idsT TS) V (.slice AS q cS) vT vL q k2 k2 SS) ∧ Hid (Below w.heap.size w wr)) (fun iv _ => q - (intOf iv).toNat)
      case atStart => exact ⟨0, _, _, by omega, rfl, HS5.out, HB5.out⟩
      case round =>
        obtain ⟨k2, vT, vL, hk2, rfl, HS, HB⟩ := hrel
        clear HS5 HB5
        by_cases hkl : k2 < q
        · have gj : decide ((k2 : Int) < (q : Int)) = true := by simp; omega
          have gj' : decide (k2 < q) = true := by simp; omega
          have y0 : (0 : Int) ≤ (k2 : Int) := by omega
          have y1 : (k2 : Int) < (q : Int) := by omega
          obtain ⟨t, ht⟩ : ∃ t, SS[k2]? = some t := ⟨_, List.getElem?_eq_getElem (by have := HQ.out; omega)⟩
          obtain ⟨g, cg, hAg, hbg, _⟩ := HS.out.ss.form (by omega)
          injection hAg with hA1 hA2 hA3
          subst hA1 hA3
          have ck : wr.cell? ⟨g, k2, none⟩ = some (.string (bs t)) := by rw [HS.out.ss.cellAt k2 (by omega)]; exact strL_get ht
          have htk : SS.take (k2 + 1) = SS.take k2 ++ [t] := by rw [List.take_add_one, ht]; rfl
          have HTK := Lib.hid htk
          have htl := HLG.out t (List.mem_of_getElem? ht)
          have HTL := Lib.hid htl
          obtain ⟨A5, c5, rfl⟩ := own_shape HS.out.tt
          obtain ⟨A8, c8, rfl⟩ := own_shape HS.out.ll
          obtain ⟨A7, c7, hV⟩ := own_shape (HS.out.mi.row t)
          have HV := Lib.hid hV
          have b0 := HS.out.box.cell 0
          simp only [List.getElem?_toArray, List.getElem?_cons_zero] at b0
          have hzr := HB.out.size
          have hb2z := HS.out.bz
          have hb22 := HS.out.b2
          obtain ⟨p, hp⟩ : ∃ p, p = (idsT TS t).length := ⟨_, rfl⟩
          rw [← hp] at HV
          clear ht htk htl hV hp
          go_wp2_with (first | (at_builtin; refine wpList_app rfl (.tmp 45) (.tmp 47) 48 rfl B2 9 i0 _ 1 16 Tryz.underlying48 hi0 hx0 hx1 hx2 rfl (by decide) _ _ _ (by rfl) (HS.out.tt.alloc _) _ 1 1 [.string (bs t)] (by rfl) (Src.of_blk (Blk.made _ _ _) 1 1 1 rfl) (by intro u hu; simp at hu; rcases hu with rfl; rfl) (by unfold maxLen; omega) (by omega) (by simp; omega) ?_; intro v6 w6 hown6 hg6 hat6; obtain ⟨A6, c6, rfl⟩ := own_shape hown6; have hS6 := HS.out.putT hg6 (by rw [HTK.out, strL_app]; exact hown6); have hlk := hS6.mi.look t (by have := HTL.out; unfold maxLen; omega); rw [HV.out] at hlk; have f6 := ((HS.out.box.alloc _).grown hg6 (fun e => own_blk HS.out.tt HS.out.box (by decide) e.symm)).frozen 0; have e6 := ((HS.out.box.alloc _).grown hg6 (fun e => own_blk HS.out.tt HS.out.box (by decide) e.symm)).cell 0; have e61 := ((HS.out.box.alloc _).grown hg6 (fun e => own_blk HS.out.tt HS.out.box (by decide) e.symm)).cell 1; simp only [List.getElem?_toArray, List.getElem?_cons_zero, List.getElem?_cons_succ] at e6 e61; have HB6 : Hid (Below w.heap.size w w6) := (bel_alloc hzr HB.out).grown hg6 (by simp; omega) (fun y hy => Nat.le_trans hb22 (World.ownsRow.lt HS.out.tt y hy).1); have H6 := Lib.hid hS6; have hb6z := hS6.bz; clear hS6 hown6 hg6 hat6) | (at_builtin; refine wpList_app rfl (.tmp 51) (.tmp 55) 49 rfl B2 42 i1 _ 1 24 Tryz.underlying49 hi1 hw0 hw1 hw2 rfl (by decide) _ _ _ (by rfl) (H6.out.ll.alloc _) _ 1 1 [.slice A7 p c7] (by rfl) (Src.of_blk (Blk.made_at _ _ _ (by simp)) 1 1 1 rfl) (by intro u hu; simp at hu; rcases hu with rfl; rfl) (by unfold maxLen; omega) (by omega) (by simp at hb6z ⊢; omega) ?_; intro v9 w9 hown9 hg9 hat9; obtain ⟨A9, c9, rfl⟩ := own_shape hown9; have hS9 := H6.out.putL hg9 (by rw [HTK.out, List.map_append, List.map_singleton, HV.out]; exact hown9); have f9 := ((H6.out.box.alloc _).grown hg9 (fun e => own_blk H6.out.ll H6.out.box (by decide) e.symm)).frozen 1; have e9 := ((H6.out.box.alloc _).grown hg9 (fun e => own_blk H6.out.ll H6.out.box (by decide) e.symm)).cell 1; simp only [List.getElem?_toArray, List.getElem?_cons_zero, List.getElem?_cons_succ] at e9; have HB9 : Hid (Below w.heap.size w w9) := (bel_alloc (by have := HB6.out.size; simp; omega) (bel_set (Nat.le_of_lt hbl) HB6.out)).grown hg9 (by have := HB6.out.size; simp; omega) (fun y hy => Nat.le_trans hb22 (World.ownsRow.lt H6.out.ll y hy).1); have H9 := Lib.hid hS9; clear hS9 hown9 hg9 hat9))
          have HBF : Hid (Below w.heap.size w (w9.setCell ⟨bo, 1, none⟩ (.slice A9 (k2 + 1) c9))) := bel_set (Nat.le_of_lt hbl) HB9.out
          clear H6 HB6 HB9 HS HB
          go_roundw
          case measure => go_light; simp [intOf]; omega
          case rel => go_light; exact ⟨k2 + 1, _, _, by omega, by first | rfl | go_num, H9.out, HBF.out⟩
        · obtain rfl : k2 = q := by omega
          have gj : decide ((k2 : Int) < (k2 : Int)) = false := by simp
          have gj' : decide (k2 < k2) = false := by simp
          obtain ⟨A5, c5, rfl⟩ := own_shape HS.out.tt
          obtain ⟨A8, c8, rfl⟩ := own_shape HS.out.ll
          have b0 := HS.out.box.cell 0
          have b1 := HS.out.box.cell 1
          have r0 := HS.out.res.cell 0
          have r1 := HS.out.res.cell 1
          have s0 := HS.out.res.frozen 0
          have s1 := HS.out.res.frozen 1
          simp only [List.getElem?_toArray, List.getElem?_cons_zero, List.getElem?_cons_succ] at b0 b1 r0 r1
          go_wp2_with fail
          have hfull : SS.take k2 = SS := List.take_of_length_le (by rw [← HQ.out]; exact Nat.le_refl _)
          have ht1 := HS.out.tt
          have hl1 := HS.out.ll
          rw [hfull] at ht1 hl1
          have hbw := HS.out.b2
          have n1 : (Value.slice A5 k2 c5).ownBlock ≠ some w.heap.size := own_blk ht1 HS.out.res (by decide)
          have n2 : (Value.slice A8 k2 c8).ownBlock ≠ some w.heap.size := own_blk hl1 HS.out.res (by decide)
          refine bodyPost_ret (v := .agg #[.slice A5 k2 c5, .slice A8 k2 c8]) ?_ rfl ⟨_, _, SS.map V, rfl, ⟨?_, ?_, ?_⟩, ?_⟩
          · have e0 := (HS.out.res.set 0 (.slice A5 k2 c5)).cell 0
            have e1 := ((HS.out.res.set 0 (.slice A5 k2 c5)).set 1 (.slice A8 k2 c8)).cell 1
            simp at e0 e1
            simp [results, Tryz.results40, go_sem, e0, e1]
          · rw [← HTSE.out, ← HSSE.out, ← HQ.out]
            exact own_set (own_set (own_mono ht1 hbw) n1 _) n1 _
          · rw [← HTSE.out, ← HSSE.out, List.length_map, ← HQ.out]
            exact own_set (own_set (own_mono hl1 hbw) n2 _) n2 _
          · intro i v ids hv hi
            rw [← HTSE.out, ← HSSE.out] at hi
            rw [List.getElem?_map] at hv hi
            cases hs : SS[i]? with
            | none => rw [hs] at hv; cases hv
            | some s =>
              rw [hs] at hv hi
              injection hv with hv
              injection hi with hi
              subst hv hi
              have hn := own_blk (HS.out.mi.row s) HS.out.res (by decide)
              exact own_set (own_set (HS.out.mi.row s) hn _) hn _
          · exact bel_set (Nat.le_refl _) (bel_set (Nat.le_refl _) HB.out)
end Go.Proofs.YtcafklmbehoggaaGreatDoor.Idx
namespace Go.Proofs.YtcafklmbehoggaaGreatDoor.Idx
open Go.RowKit Go.Proofs.YtcafklmbehoggaaGreatDoor.Mem Go.Proofs.YtcafklmbehoggaaGreatDoor.Own Go.Proofs.YtcafklmbehoggaaGreatDoor.Canon
open Go.Proofs.YtcafklmbehoggaaGreatDoor.NumPut (numB numB_len64 numB_u8)
open Go.Proofs.YtcafklmbehoggaaGreatDoor.Ef (efO mayI efBits lowsU highsU lowsU_len unary unary_length mayI_lt mayI_rise efW)
open Go.Proofs.YtcafklmbehoggaaGreatDoor.Huff (bytesOf bytesOf_length)
def listsO (bound : Nat) (ls : List (List Nat)) : List Nat := ls.flatMap (efO bound)
def ixO (size bound : Nat) (ts : List Str) (ls : List (List Nat)) : List Nat := dictO size ts ++ listsO bound ls
theorem listsO_snoc (bound : Nat) (ls : List (List Nat)) (k : Nat) (x : List Nat) (h : ls[k]? = some x) : listsO bound (ls.take (k + 1)) = listsO bound (ls.take k) ++ efO bound x := by
  unfold listsO
  rw [List.take_add_one, h]
  simp
theorem highsU_le : ∀ (l : List Nat) (was B : Nat), was ≤ B → (∀ x ∈ l, was ≤ x ∧ x ≤ B) → l.Pairwise (· ≤ ·) → (highsU was l).length + was ≤ B + l.length
  | [], was, B, hw, _, _ => by simp [highsU]; exact hw
  | x :: t, was, B, hw, h, hp => by
    rw [List.pairwise_cons] at hp
    have hx := h x List.mem_cons_self
    have ih := highsU_le t x B hx.2 (fun y hy => ⟨hp.1 y hy, (h y (List.mem_cons_of_mem _ hy)).2⟩) hp.2
    rw [highsU, List.length_append, unary_length, List.length_cons]
    omega
theorem mayI_pair : ∀ (bound : Nat) (l : List Nat) (u : Option Nat), mayI bound u l = true → l.Pairwise (· ≤ ·) ∧ ∀ y, u = some y → ∀ x ∈ l, y ≤ x
  | _, [], _, _ => ⟨List.Pairwise.nil, fun _ _ _ hx => by cases hx⟩
  | bound, a :: t, u, h => by
    rw [mayI, Bool.and_eq_true] at h
    have ih := mayI_pair bound t (some a) h.2
    have ha : ∀ y, u = some y → y ≤ a := fun y hy => by
      have h1 := h.1
      unfold Ef.mayO at h1
      rw [hy, Bool.and_eq_true] at h1
      have := h1.2
      simp at this
      omega
    refine ⟨List.pairwise_cons.2 ⟨fun x hx => ih.2 a rfl x hx, ih.1⟩, fun y hy x hx => ?_⟩
    rcases List.mem_cons.1 hx with rfl | hx
    · exact ha y hy
    · exact Nat.le_trans (ha y hy) (ih.2 a rfl x hx)
theorem efO_len {bound : Nat} {l : List Nat} (hb : bound ≤ 20000) (hm : mayI bound none l = true) (hn : l.length ≤ bound) : (efO bound l).length ≤ 45010 := by
  unfold efO
  split
  · have := numB_len64 (x := 0) (by omega)
    omega
  · rename_i h0
    have h1 : 1 ≤ l.length := List.length_pos_iff.2 h0
    have hq : 1 ≤ bound / l.length := (Nat.one_le_div_iff (by omega)).2 hn
    have hW : efW bound l.length ≤ 14 := by
      refine Decidable.byContradiction fun h => ?_
      have h2 : 2 ^ 15 ≤ 2 ^ efW bound l.length := Nat.pow_le_pow_right (by omega) (by omega)
      have h3 := Ef.log2_le (q := bound / l.length) (by omega)
      have h4 : bound / l.length ≤ bound := Nat.div_le_self _ _
      unfold efW at h2
      omega
    have hn2 := numB_len64 (x := l.length) (by omega)
    have hlow := lowsU_len (efW bound l.length) l
    have hlw : l.length * efW bound l.length ≤ 20000 * 14 := Nat.mul_le_mul (by omega) hW
    have hlt := mayI_lt bound l none hm
    have hp := (mayI_pair bound l none hm).1
    have hhi := highsU_le (l.map (· / 2 ^ efW bound l.length)) 0 bound (by omega) (fun x hx => by
      obtain ⟨y, hy, rfl⟩ := List.mem_map.1 hx
      exact ⟨Nat.zero_le _, Nat.le_trans (Nat.div_le_self _ _) (by have := hlt y hy; omega)⟩) (List.Pairwise.map _ (fun a b h => Nat.div_le_div_right h) hp)
    rw [List.length_map] at hhi
    rw [List.length_append, bytesOf_length]
    unfold efBits
    rw [List.length_append, hlow]
    omega
theorem mayI_len : ∀ (bound : Nat) (l : List Nat) (u : Option Nat), mayI bound u l = true → l.length + (match u with | none => 0 | some y => y + 1) ≤ bound ∨ l = []
  | _, [], _, _ => .inr rfl
  | bound, a :: t, u, h => by
    have h' := h
    rw [mayI, Bool.and_eq_true] at h'
    have hlt := mayI_lt bound (a :: t) u h a List.mem_cons_self
    have h1 := h'.1
    unfold Ef.mayO at h1
    rw [Bool.and_eq_true] at h1
    refine .inl ?_
    rcases mayI_len bound t (some a) h'.2 with ih | ih
    · simp only at ih
      cases u with
      | none => simp only [List.length_cons]; omega
      | some y =>
        have := h1.2
        simp at this
        simp only [List.length_cons]
        omega
    · subst ih
      cases u with
      | none => simp only [List.length_cons, List.length_nil]; omega
      | some y =>
        have := h1.2
        simp at this
        simp only [List.length_cons, List.length_nil]
        omega
theorem mayI_short {bound : Nat} {l : List Nat} (h : mayI bound none l = true) (h0 : l ≠ []) : 1 ≤ l.length ∧ l.length ≤ bound := by
  have h1 : 1 ≤ l.length := List.length_pos_iff.2 h0
  rcases mayI_len bound l none h with h2 | h2
  · exact ⟨h1, by simpa using h2⟩
  · exact absurd h2 h0
def mayLs (bound : Nat) (ls : List (List Nat)) : Bool := ls.all (mayI bound none)
theorem mayLs_get {bound : Nat} {ls : List (List Nat)} (h : mayLs bound ls = true) {k : Nat} {x : List Nat} (hx : ls[k]? = some x) : mayI bound none x = true := List.all_eq_true.1 h x (List.mem_of_getElem? hx)
theorem listsO_len {bound : Nat} {ls : List (List Nat)} (hb : bound ≤ 20000) (h0 : ∀ l ∈ ls, l ≠ []) (hm : mayLs bound ls = true) : (listsO bound ls).length ≤ 45010 * ls.length := by
  induction ls with
  | nil => simp [listsO]
  | cons x t ih =>
    unfold mayLs at hm ih
    rw [List.all_cons, Bool.and_eq_true] at hm
    have ih := ih (fun l hl => h0 l (List.mem_cons_of_mem _ hl)) hm.2
    have hx := efO_len hb hm.1 (mayI_short hm.1 (h0 x List.mem_cons_self)).2
    unfold listsO at ih ⊢
    rw [List.flatMap_cons, List.length_append, List.length_cons]
    omega
theorem dictO_len {size : Nat} {l : List Str} (hm : mayD l = true) (h1 : 1 ≤ size) (h2 : size ≤ 64) (hN : l.length ≤ 20000) : (dictO size l).length ≤ 820010 := by
  have hs : ∀ s ∈ l, s.length ≤ 25 := fun s hs => (mayD_small hm s hs).2
  have a := hdB_len hs h2 (by omega) (nCh size l.length)
  have b := bdB_len2 hs h1 (nCh size l.length)
  have c := nCh_le (n := l.length) h1
  have e : dictO size l = hdB size l (nCh size l.length) ++ bdB size l (nCh size l.length) := dictO_eq h1 l
  rw [e, List.length_append]
  omega
theorem IxAt.step {w w' : World} {base : Nat} {vT vL : Value} {vals : List Value} {ts : List Str} {ls : List (List Nat)} (h : IxAt w base vT vL vals ts ls) (hb : Below w.heap.size w w') : IxAt w' base vT vL vals ts ls :=
  ⟨own_kept h.t fun y hy => hb.block y (World.ownsRow.lt h.t y hy).2, own_kept h.l fun y hy => hb.block y (World.ownsRow.lt h.l y hy).2, fun i v ids hv hi => own_kept (h.r i v ids hv hi) fun y hy => hb.block y (World.ownsRow.lt (h.r i v ids hv hi) y hy).2⟩
theorem IxAt.len {w : World} {base : Nat} {vT vL : Value} {vals : List Value} {ts : List Str} {ls : List (List Nat)} (h : IxAt w base vT vL vals ts ls) : vals.length = ls.length := by have := h.l.1; omega
end Go.Proofs.YtcafklmbehoggaaGreatDoor.Idx
namespace Go.Proofs.YtcafklmbehoggaaGreatDoor.Body
open Go.Proofs.YtcafklmbehoggaaGreatDoor.Recs Go.Proofs.YtcafklmbehoggaaGreatDoor.Opts Go.Proofs.YtcafklmbehoggaaGreatDoor.Crc Go.Proofs.YtcafklmbehoggaaGreatDoor.Idx
open Go.Proofs.YtcafklmbehoggaaGreatDoor.NumPut (numB numB_len64 numB_u8)
open Go.Proofs.YtcafklmbehoggaaGreatDoor.Block (frameB)
open Go.Proofs.YtcafklmbehoggaaGreatDoor.One (groups_sum groups_pos pos_length lensB_length)
def framesW (wh pl : Bool) : List Nat → List Rec → List (List Nat)
  | [], _ => []
  | c :: t, l => frameB (bytesB wh (l.take c)) pl :: framesW wh pl t (l.drop c)
def countsF (o : Opt) (l : List Rec) : List Nat := groupsP o.block.toNat (lensB false l)
def pairsP : List Nat → List Nat → List Nat
  | a :: g, b :: s => numB a ++ (numB b ++ pairsP g s)
  | _, _ => []
def putC (b : List Nat) : List Nat := b ++ tailN (sumN b)
def dirP (n : Nat) (G S : List Nat) (x y : Nat) : List Nat := numB n ++ (numB G.length ++ (pairsP G S ++ (numB x ++ numB y)))
def joinP (n : Nat) (G : List Nat) (FS : List (List Nat)) (cols idx : List Nat) : List Nat :=
  FS.flatten ++ (putC cols ++ (putC idx ++ (putC (dirP n G (FS.map List.length) (putC cols).length (putC idx).length) ++ fix4 (putC (dirP n G (FS.map List.length) (putC cols).length (putC idx).length)).length)))
def ixR (o : Opt) (l : List Rec) : List Nat := ixO o.bucket.toNat l.length (allT (l.map termsR)) ((allT (l.map termsR)).map (idsT (l.map termsR)))
def makeB (o : Opt) (l : List Rec) : List Nat := joinP l.length (countsF o l) (framesW false o.plain (countsF o l) l) (colsB l) (ixR o l)
theorem putC_len (b : List Nat) : (putC b).length = b.length + 4 := by unfold putC; rw [List.length_append]; rfl
theorem putC_u8 {b : List Nat} (h : ∀ x ∈ b, x ≤ 255) : ∀ x ∈ putC b, x ≤ 255 := fun x hx => by
  rcases List.mem_append.1 hx with hx | hx
  · exact h x hx
  · have := tail_bytes _ x hx; omega
theorem pairsP_snoc : ∀ (g s : List Nat) (a b : Nat), g.length = s.length → pairsP (g ++ [a]) (s ++ [b]) = pairsP g s ++ (numB a ++ numB b)
  | [], [], a, b, _ => by simp [pairsP]
  | x :: g, y :: s, a, b, h => by
    rw [List.cons_append, List.cons_append, pairsP, pairsP_snoc g s a b (by simpa using h), pairsP]
    simp only [List.append_assoc]
  | [], _ :: _, _, _, h => by simp at h
  | _ :: _, [], _, _, h => by simp at h
theorem pairsP_step {g s : List Nat} {k a b : Nat} (ha : g[k]? = some a) (hb : s[k]? = some b) : pairsP (g.take (k + 1)) (s.take (k + 1)) = pairsP (g.take k) (s.take k) ++ (numB a ++ numB b) := by
  obtain ⟨hk, _⟩ := List.getElem?_eq_some_iff.1 ha
  obtain ⟨hk2, _⟩ := List.getElem?_eq_some_iff.1 hb
  rw [List.take_add_one, ha, List.take_add_one, hb]
  exact pairsP_snoc _ _ a b (by rw [List.length_take, List.length_take]; omega)
theorem pairsP_len : ∀ (g s : List Nat), (∀ x ∈ g, x < 18446744073709551616) → (∀ x ∈ s, x < 18446744073709551616) → (pairsP g s).length ≤ 20 * g.length
  | [], _, _, _ => by simp [pairsP]
  | _ :: _, [], _, _ => by simp [pairsP]
  | x :: g, y :: s, h1, h2 => by
    have a := numB_len64 (h1 x List.mem_cons_self)
    have b := numB_len64 (h2 y List.mem_cons_self)
    have c := pairsP_len g s (fun z hz => h1 z (List.mem_cons_of_mem _ hz)) (fun z hz => h2 z (List.mem_cons_of_mem _ hz))
    rw [pairsP, List.length_append, List.length_append, List.length_cons]
    omega
theorem pairsP_u8 : ∀ (g s : List Nat), ∀ x ∈ pairsP g s, x ≤ 255
  | [], _, x, h => by simp [pairsP] at h
  | _ :: _, [], x, h => by simp [pairsP] at h
  | a :: g, b :: s, x, h => by
    rw [pairsP] at h
    rcases List.mem_append.1 h with h | h
    · exact numB_u8 _ x h
    · rcases List.mem_append.1 h with h | h
      · exact numB_u8 _ x h
      · exact pairsP_u8 g s x h
theorem dirP_u8 (n : Nat) (G S : List Nat) (x y : Nat) : ∀ z ∈ dirP n G S x y, z ≤ 255 := fun z h => by
  unfold dirP at h
  simp only [List.mem_append] at h
  rcases h with h | h | h | h | h
  · exact numB_u8 _ z h
  · exact numB_u8 _ z h
  · exact pairsP_u8 _ _ z h
  · exact numB_u8 _ z h
  · exact numB_u8 _ z h
theorem dirP_len {n : Nat} {G S : List Nat} {x y : Nat} (hn : n ≤ 1000000000) (hg : G.length ≤ 1000000000) (h1 : ∀ z ∈ G, z ≤ 1000000000) (h2 : ∀ z ∈ S, z ≤ 1000000000) (hx : x ≤ 1000000000) (hy : y ≤ 1000000000) : (dirP n G S x y).length ≤ 40 + 20 * G.length := by
  have a := numB_len64 (x := n) (by omega)
  have b := numB_len64 (x := G.length) (by omega)
  have c := numB_len64 (x := x) (by omega)
  have d := numB_len64 (x := y) (by omega)
  have e := pairsP_len G S (fun z hz => by have := h1 z hz; omega) (fun z hz => by have := h2 z hz; omega)
  unfold dirP
  simp only [List.length_append]
  omega
theorem framesW_len (wh pl : Bool) : ∀ (cs : List Nat) (l : List Rec), (bytesB wh l).length ≤ 16000 → (framesW wh pl cs l).flatten.length ≤ (bytesB wh l).length + 25 * cs.length
  | [], _, _ => by simp [framesW]
  | c :: t, l, h => by
    have hs := One.bytesB_split wh l c
    have ih := framesW_len wh pl t (l.drop c) (by omega)
    have hf := One.frame_max (bs := bytesB wh (l.take c)) pl (by omega)
    rw [framesW, List.flatten_cons, List.length_append, List.length_cons]
    omega
theorem countsF_sum (o : Opt) (l : List Rec) : (countsF o l).sum = l.length := by unfold countsF; rw [groups_sum, lensB_length]
theorem countsF_len (o : Opt) (l : List Rec) : (countsF o l).length ≤ l.length := by
  have := pos_length (groups_pos o.block.toNat (lensB false l))
  rw [groups_sum, lensB_length] at this
  exact this
theorem le_sum : ∀ {l : List Nat} {x : Nat}, x ∈ l → x ≤ l.sum
  | y :: t, x, h => by
    rw [List.sum_cons]
    rcases List.mem_cons.1 h with rfl | h
    · omega
    · have := le_sum h; omega
end Go.Proofs.YtcafklmbehoggaaGreatDoor.Body
namespace Go.Proofs.YtcafklmbehoggaaGreatDoor.Body
open Go.RowKit Go.Proofs.YtcafklmbehoggaaGreatDoor.Mem Go.Proofs.YtcafklmbehoggaaGreatDoor.Own Go.Proofs.YtcafklmbehoggaaGreatDoor.Canon Go.Proofs.YtcafklmbehoggaaGreatDoor.Recs
open Go.Proofs.YtcafklmbehoggaaGreatDoor.NumPut
open Go.Proofs.YtcafklmbehoggaaGreatDoor.Block (part_own)
theorem sum_step {l : List Nat} {k x : Nat} (h : l[k]? = some x) : (l.take (k + 1)).sum = (l.take k).sum + x := by
  rw [List.take_add_one, h]
  simp
theorem sum_take_le (l : List Nat) (k : Nat) : (l.take k).sum ≤ l.sum := by
  conv => rhs; rw [← List.take_append_drop k l]
  rw [List.sum_append]
  omega
set_option maxHeartbeats 1000000 in
set_option maxRecDepth 100000 in
theorem sum_any (w : World) (A : Option Addr) (n c : Nat) (ls : List Nat) (hn : ls.length = n) (hN : n ≤ 1000000) (hs : ls.sum ≤ 1000000000) (ha : Row w w.heap.size A n 1 (numF .i64 ls)) :
    Calls Tryz.prog 56 #[.slice A n c] w fun e w' => e = .returned (.int .i64 (ls.sum : Nat)) ∧ w' = w := by
  have HN := Lib.hid hn
  obtain ⟨R, hR⟩ : ∃ R, R = ls.sum := ⟨_, rfl⟩
  have HR := Lib.hid hR
  rw [← hR] at hs ⊢
  clear hn hR
  go_enter Tryz.func56, Tryz.ntmps56
  go_wp2_with fail
  go_loopw [3, 8] (fun sv iv wx => ∃ k s : Nat, k ≤ n ∧ s ≤ R ∧ iv = .int .i64 k ∧ sv = .int .i64 s ∧ Hid (s = (ls.take k).sum) ∧ wx = w) (fun _ iv _ => n - (intOf iv).toNat)
  case atStart => exact ⟨0, 0, by omega, by omega, rfl, rfl, rfl, rfl⟩
  case round =>
    obtain ⟨k, s, hk, hsR, rfl, rfl, HS, rfl⟩ := hrel
    by_cases hlt : k < n
    · have gk : decide ((k : Int) < (n : Int)) = true := by simp; omega
      have gk' : decide (k < n) = true := by simp; omega
      have x0 : (0 : Int) ≤ (k : Int) := by omega
      have x1 : (k : Int) < (n : Int) := by omega
      obtain ⟨b, off, x, rfl, _, hx, ck⟩ := num_cell ha HN.out hlt
      have hst := sum_step hx
      have hle := sum_take_le ls (k + 1)
      rw [hst, ← HS.out, ← HR.out] at hle
      have HS2 : Hid (s + x = (ls.take (k + 1)).sum) := by show _ = _; rw [hst, HS.out]
      have s1 : IntKind.i64.wrap ((s : Int) + (x : Int)) = ((s + x : Nat) : Int) := by rw [IntWalk.i64_in _ (by omega)]; omega
      clear hst hx HS
      go_wp2_with fail
      go_roundw
      case measure => go_light; simp [intOf]; omega
      case rel => go_light; exact ⟨k + 1, s + x, by omega, hle, by first | rfl | go_num, by first | rfl | go_num, HS2.out, by first | rfl | trivial⟩
    · obtain rfl : k = n := by omega
      have gk : decide ((k : Int) < (k : Int)) = false := by simp
      have gk' : decide (k < k) = false := by simp
      have hsr : s = R := by rw [HS.out, HR.out, List.take_of_length_le (by rw [HN.out]; exact Nat.le_refl _)]
      subst hsr
      clear HS HR hlt
      go_wp2_with fail
      go_ret
      exact ⟨rfl, rfl⟩
set_option maxHeartbeats 4000000 in
set_option maxRecDepth 100000 in
theorem dirbytes_any (w : World) (db g cG cS x y base : Nat) (AG AS : Option Addr) (G S : List Nat) (hg : G.length = g) (hs : S.length = g) (hgl : g ≤ 20000) (hG : G.sum ≤ 1000000000) (hS : ∀ z ∈ S, z ≤ 1000000000) (hx : x ≤ 1000000000) (hy : y ≤ 1000000000)
    (hb : Blk w db 72 #[.slice AG g cG, .slice AS g cS, .int .i64 (x : Nat), .int .i64 (y : Nat)]) (hrG : Row w base AG g 1 (numF .i64 G)) (hrS : Row w base AS g 1 (numF .i64 S)) (hbase : base ≤ w.heap.size) :
    Calls Tryz.prog 41 #[.pointer (some ⟨db, 0, none⟩)] w fun e w' => ∃ v, e = .returned v ∧ w'.ownsRow w.heap.size 5 1 v (dirP G.sum G S x y).length (numL .u8 (dirP G.sum G S x y)) ∧ Below w.heap.size w w' := by
  have DS := Lib.hid (fun wx (h : Below w.heap.size w wx) => sum_any wx AG g cG G hg (by omega) hG (((hrG.mono hbase).below h).mono h.size))
  have D1 := Lib.hid (fun wx => num64_any wx G.sum (by omega))
  have D2 := Lib.hid (fun wx => num64_any wx g (by omega))
  have l1 := numB_len64 (x := G.sum) (by omega)
  have l2 := numB_len64 (x := g) (by omega)
  have hDP : dirP G.sum G S x y = numB G.sum ++ (numB g ++ (pairsP G S ++ (numB x ++ numB y))) := by unfold dirP; rw [hg]
  obtain ⟨s, hss⟩ : ∃ s, s = G.sum := ⟨_, rfl⟩
  rw [← hss] at DS D1 l1 hG hDP ⊢
  have HDP := Lib.hid hDP
  have u1 : IntKind.u64.wrap (s : Int) = (s : Int) := by rw [IntKind.wrap_u64]; omega
  have u2 : IntKind.u64.wrap (g : Int) = (g : Int) := by rw [IntKind.wrap_u64]; omega
  have hGl : ∀ z ∈ G, z ≤ 1000000000 := fun z hz => Nat.le_trans (le_sum hz) (by omega)
  have HGL := Lib.hid hGl
  have HSL := Lib.hid hS
  have HG := Lib.hid hg
  have HS := Lib.hid hs
  have HRG : Hid (Row w base AG g 1 (numF .i64 G)) := hrG
  have HRS : Hid (Row w base AS g 1 (numF .i64 S)) := hrS
  have HBK := Lib.hid hb
  have HC : Hid (∀ wx, Below w.heap.size w wx → wx.cell? ⟨db, 0, none⟩ = some (.slice AG g cG)) := fun wx h => (hb.step h).cell 0
  have HSS := Lib.hid hss
  have c0 := hb.cell 0
  have hdb := hb.lt
  simp only [List.getElem?_toArray, List.getElem?_cons_zero] at c0
  clear hg hs hS hDP hb hrG hrS hGl hss
  generalize numB s = N1 at *
  generalize numB g = N2 at *
  have hs2 : ∀ a1 a2 a3 a4, sumL [(⟨a1, a2, N1⟩ : Part), ⟨a3, a4, N2⟩] ≤ 1000000 := fun _ _ _ _ => by simp [sumL]; omega
  go_enter Tryz.func41, Tryz.ntmps41
  go_upto_region 1 with fail
  go_cut [3] (fun v wx => Hid (wx.ownsRow w.heap.size 5 1 v (N1.length + N2.length) (numL .u8 (N1 ++ N2))) ∧ Hid (Below w.heap.size w wx))
  case first =>
    go_region_held3 (fun wx => wx.cell? ⟨db, 0, none⟩ = some (.slice AG g cG)) (first | exact HC.out _ ((Below.refl _ _).drew) | (refine HC.out _ ?_; (repeat (first | (with_reducible exact Below.refl _ _) | (with_reducible assumption) | (with_reducible refine Below.drew ?_) | (with_reducible refine below_drewN ?_ _) | ((with_reducible refine bel_set ?_ ?_); (focus (first | (simp; done) | (simp; omega) | omega | (simp at *; omega)))) | (with_reducible refine bel_alloc0 ?_) | (with_reducible refine bel_step0 (by assumption) ?_) | ((with_reducible refine bel_alloc ?_ ?_); (focus (first | (simp; done) | (simp; omega) | omega | (simp at *; omega)))) | ((with_reducible refine bel_step (by assumption) ?_ ?_); (focus (first | (simp; done) | (simp; omega) | omega | (simp at *; omega)))))))) (first | (go_at_call 56; (with_reducible refine (DS.out _ (by (repeat (first | (with_reducible exact Below.refl _ _) | (with_reducible assumption) | (with_reducible refine Below.drew ?_) | (with_reducible refine below_drewN ?_ _) | ((with_reducible refine bel_set ?_ ?_); (focus (first | (simp; done) | (simp; omega) | omega | (simp at *; omega)))) | (with_reducible refine bel_alloc0 ?_) | (with_reducible refine bel_step0 (by assumption) ?_) | ((with_reducible refine bel_alloc ?_ ?_); (focus (first | (simp; done) | (simp; omega) | omega | (simp at *; omega)))) | ((with_reducible refine bel_step (by assumption) ?_ ?_); (focus (first | (simp; done) | (simp; omega) | omega | (simp at *; omega)))))))).mono ?_); rintro e wF ⟨rfl, rfl⟩) | (go_at_call 83; first | ((with_reducible refine (D1.out _).mono ?_); rintro e wA ⟨vA, rfl, hoA, hbA⟩; obtain ⟨AA, cA, rfl⟩ := own_shape hoA; have PA : Part.Ok (⟨AA, cA, N1⟩ : Part) wA := part_own hoA rfl) | ((with_reducible refine (D2.out _).mono ?_); rintro e wB ⟨vB, rfl, hoB, hbB⟩; obtain ⟨AB, cB, rfl⟩ := own_shape hoB; have PB : Part.Ok (⟨AB, cB, N2⟩ : Part) wB := part_own hoB rfl)) | (go_at_call 43; (refine (all_any _ _ 2 [(⟨AA, cA, N1⟩ : Part), (⟨AB, cB, N2⟩ : Part)] rfl (by omega) (hs2 _ _ _ _) (fun p hp => by { rcases List.mem_cons.1 hp with rfl | hp; exact PA.step (by (repeat (first | (with_reducible exact Below.refl _ _) | (with_reducible assumption) | (with_reducible refine Below.drew ?_) | (with_reducible refine below_drewN ?_ _) | ((with_reducible refine bel_set ?_ ?_); (focus (first | (simp; done) | (simp; omega) | omega | (simp at *; omega)))) | (with_reducible refine bel_alloc0 ?_) | (with_reducible refine bel_step0 (by assumption) ?_) | ((with_reducible refine bel_alloc ?_ ?_); (focus (first | (simp; done) | (simp; omega) | omega | (simp at *; omega)))) | ((with_reducible refine bel_step (by assumption) ?_ ?_); (focus (first | (simp; done) | (simp; omega) | omega | (simp at *; omega))))))); rcases List.mem_cons.1 hp with rfl | hp; exact PB.step (by (repeat (first | (with_reducible exact Below.refl _ _) | (with_reducible assumption) | (with_reducible refine Below.drew ?_) | (with_reducible refine below_drewN ?_ _) | ((with_reducible refine bel_set ?_ ?_); (focus (first | (simp; done) | (simp; omega) | omega | (simp at *; omega)))) | (with_reducible refine bel_alloc0 ?_) | (with_reducible refine bel_step0 (by assumption) ?_) | ((with_reducible refine bel_alloc ?_ ?_); (focus (first | (simp; done) | (simp; omega) | omega | (simp at *; omega)))) | ((with_reducible refine bel_step (by assumption) ?_ ?_); (focus (first | (simp; done) | (simp; omega) | omega | (simp at *; omega))))))); cases hp }) (by first | exact Blk.made _ _ _ | exact Blk.made_at _ _ _ (by simp) | exact Blk.drew (Blk.made _ _ _) | exact Blk.drew (Blk.made_at _ _ _ (by simp)))).mono ?_); rintro e w7 ⟨v7, rfl, ho7, hb7⟩; obtain ⟨A7, c7, rfl⟩ := own_shape ho7; have B7 : Below w.heap.size w w7 := bel_step0 hb7 (by (repeat (first | (with_reducible exact Below.refl _ _) | (with_reducible assumption) | (with_reducible refine Below.drew ?_) | (with_reducible refine below_drewN ?_ _) | ((with_reducible refine bel_set ?_ ?_); (focus (first | (simp; done) | (simp; omega) | omega | (simp at *; omega)))) | (with_reducible refine bel_alloc0 ?_) | (with_reducible refine bel_step0 (by assumption) ?_) | ((with_reducible refine bel_alloc ?_ ?_); (focus (first | (simp; done) | (simp; omega) | omega | (simp at *; omega)))) | ((with_reducible refine bel_step (by assumption) ?_ ?_); (focus (first | (simp; done) | (simp; omega) | omega | (simp at *; omega)))))))))
    all_goals
      have HO7 : Hid (w7.ownsRow w.heap.size 5 1 (.slice A7 (N1.length + N2.length) c7) (N1.length + N2.length) (numL .u8 (N1 ++ N2))) := by
        have h := own_mono ho7 (show w.heap.size ≤ _ from Below.size (by (repeat (first | (with_reducible exact Below.refl _ _) | (with_reducible assumption) | (with_reducible refine Below.drew ?_) | (with_reducible refine below_drewN ?_ _) | ((with_reducible refine bel_set ?_ ?_); (focus (first | (simp; done) | (simp; omega) | omega | (simp at *; omega)))) | (with_reducible refine bel_alloc0 ?_) | (with_reducible refine bel_step0 (by assumption) ?_) | ((with_reducible refine bel_alloc ?_ ?_); (focus (first | (simp; done) | (simp; omega) | omega | (simp at *; omega)))) | ((with_reducible refine bel_step (by assumption) ?_ ?_); (focus (first | (simp; done) | (simp; omega) | omega | (simp at *; omega))))))))
        simp only [List.flatMap_cons, List.flatMap_nil, List.append_nil, List.length_append] at h
        exact h
      have HB7 := Lib.hid B7
      go_wp2_with fail
      go_meet
      case rel => go_light; exact ⟨HO7.out, HB7.out⟩
  case rest =>
    obtain ⟨HO9, HB9⟩ := hcut
    have c0' := HC.out _ HB9.out
    clear c0
    go_wp2_with fail
    have HO0 : Hid (wc.ownsRow w.heap.size 5 1 u3 (N1 ++ N2 ++ pairsP (G.take 0) (S.take 0)).length (numL .u8 (N1 ++ N2 ++ pairsP (G.take 0) (S.take 0)))) := by
      have e : N1 ++ N2 ++ pairsP (G.take 0) (S.take 0) = N1 ++ N2 := by simp [pairsP]
      show World.ownsRow _ _ _ _ _ _ _
      rw [e, List.length_append]
      exact HO9.out
    have HL0 : Hid ((N1 ++ N2 ++ pairsP (G.take 0) (S.take 0)).length ≤ 20 + 20 * 0) := by
      show _ ≤ _
      simp [pairsP]
      omega
    clear c0' HO9
    go_loopw [3, 27] (fun ov iv wr => ∃ k : Nat, k ≤ g ∧ iv = .int .i64 k ∧ Hid (wr.ownsRow w.heap.size 5 1 ov (N1 ++ N2 ++ pairsP (G.take k) (S.take k)).length (numL .u8 (N1 ++ N2 ++ pairsP (G.take k) (S.take k)))) ∧ Hid ((N1 ++ N2 ++ pairsP (G.take k) (S.take k)).length ≤ 20 + 20 * k) ∧ Hid (Below w.heap.size w wr)) (fun _ iv _ => g - (intOf iv).toNat)
    case atStart => exact ⟨0, by omega, rfl, HO0.out, HL0.out, HB9.out⟩
    case round =>
      obtain ⟨k, hk, rfl, HO, HL, HB⟩ := hrel
      clear HO0 HL0 HB9
      obtain ⟨wi, rfl⟩ : ∃ wi : World, wi = wr := ⟨_, rfl⟩
      have hz := HB.out.size
      by_cases hlt : k < g
      · have gk : decide ((k : Int) < (g : Int)) = true := by simp; omega
        have gk' : decide (k < g) = true := by simp; omega
        obtain ⟨A3, c3, rfl⟩ := own_shape HO.out
        have x0 : (0 : Int) ≤ (k : Int) := by omega
        have x1 : (k : Int) < (g : Int) := by omega
        obtain ⟨bg, og, n, rfl, hbg, hn, cn⟩ := num_cell (HRG.out.keep fun p hp => HB.out.cell (p := p) (Nat.lt_of_lt_of_le hp hbase)) HG.out hlt
        obtain ⟨bs, os, z, rfl, hbs, hz', cz⟩ := num_cell (HRS.out.keep fun p hp => HB.out.cell (p := p) (Nat.lt_of_lt_of_le hp hbase)) HS.out hlt
        have hnl := HGL.out n (List.mem_of_getElem? hn)
        have hzl := HSL.out z (List.mem_of_getElem? hz')
        have hst := pairsP_step hn hz'
        have DA := Lib.hid (fun wx => num64_any wx n (by omega))
        have DB := Lib.hid (fun wx => num64_any wx z (by omega))
        have u3 : IntKind.u64.wrap (n : Int) = (n : Int) := by rw [IntKind.wrap_u64]; omega
        have u4 : IntKind.u64.wrap (z : Int) = (z : Int) := by rw [IntKind.wrap_u64]; omega
        have la := numB_len64 (x := n) (by omega)
        have lb := numB_len64 (x := z) (by omega)
        have HC2 : Hid (∀ wx, Below wi.heap.size wi wx → wx.cell? ⟨db, 1, none⟩ = some (.slice (some ⟨bs, os, none⟩) g cS) ∧ wx.cell? ⟨bs, os + k, none⟩ = some (.int .i64 (z : Nat))) := fun wx h => ⟨((HBK.out.step HB.out).step h).cell 1, (h.cell (p := ⟨bs, os + k, none⟩) (by show bs < _; omega)).trans cz⟩
        have PO : Hid (∀ wx, Below wi.heap.size wi wx → Part.Ok (⟨A3, c3, N1 ++ N2 ++ pairsP (G.take k) (S.take k)⟩ : Part) wx) := fun wx hb => (part_own HO.out rfl).step hb
        generalize numB n = NA at *
        generalize numB z = NB at *
        have HSE : Hid (N1 ++ N2 ++ pairsP (G.take (k + 1)) (S.take (k + 1)) = N1 ++ N2 ++ pairsP (G.take k) (S.take k) ++ (NA ++ NB)) := by show _ = _; rw [hst]; simp only [List.append_assoc]
        have hol := HL.out
        generalize N1 ++ N2 ++ pairsP (G.take k) (S.take k) = OUT at *
        have hs3 : ∀ a1 a2 a3 a4 a5 a6, sumL [(⟨a1, a2, OUT⟩ : Part), ⟨a3, a4, NA⟩, ⟨a5, a6, NB⟩] ≤ 1000000 := fun _ _ _ _ _ _ => by simp [sumL]; omega
        have c1 := (HC2.out wi (Below.refl _ _)).1
        clear hn hz' hst hnl hzl
        go_upto_region 5 with fail
        go_region_held3 (fun wx => wx.cell? ⟨db, 1, none⟩ = some (.slice (some ⟨bs, os, none⟩) g cS) ∧ wx.cell? ⟨bs, os + k, none⟩ = some (.int .i64 (z : Nat))) (first | exact HC2.out _ ((Below.refl _ _).drew) | (refine HC2.out _ ?_; (repeat (first | (with_reducible exact Below.refl _ _) | (with_reducible assumption) | (with_reducible refine Below.drew ?_) | (with_reducible refine below_drewN ?_ _) | ((with_reducible refine bel_set ?_ ?_); (focus (first | (simp; done) | (simp; omega) | omega | (simp at *; omega)))) | (with_reducible refine bel_alloc0 ?_) | (with_reducible refine bel_step0 (by assumption) ?_) | ((with_reducible refine bel_alloc ?_ ?_); (focus (first | (simp; done) | (simp; omega) | omega | (simp at *; omega)))) | ((with_reducible refine bel_step (by assumption) ?_ ?_); (focus (first | (simp; done) | (simp; omega) | omega | (simp at *; omega)))))))) (first | (go_at_call 83; first | ((with_reducible refine (DA.out _).mono ?_); rintro e wA ⟨vA, rfl, hoA, hbA⟩; obtain ⟨AA, cA, rfl⟩ := own_shape hoA; have PA : Part.Ok (⟨AA, cA, NA⟩ : Part) wA := part_own hoA rfl) | ((with_reducible refine (DB.out _).mono ?_); rintro e wB ⟨vB, rfl, hoB, hbB⟩; obtain ⟨AB, cB, rfl⟩ := own_shape hoB; have PB : Part.Ok (⟨AB, cB, NB⟩ : Part) wB := part_own hoB rfl)) | (go_at_call 43; (refine (all_any _ _ 3 [(⟨A3, c3, OUT⟩ : Part), (⟨AA, cA, NA⟩ : Part), (⟨AB, cB, NB⟩ : Part)] rfl (by omega) (hs3 _ _ _ _ _ _) (fun p hp => by { rcases List.mem_cons.1 hp with rfl | hp; exact PO.out _ (by (repeat (first | (with_reducible exact Below.refl _ _) | (with_reducible assumption) | (with_reducible refine Below.drew ?_) | (with_reducible refine below_drewN ?_ _) | ((with_reducible refine bel_set ?_ ?_); (focus (first | (simp; done) | (simp; omega) | omega | (simp at *; omega)))) | (with_reducible refine bel_alloc0 ?_) | (with_reducible refine bel_step0 (by assumption) ?_) | ((with_reducible refine bel_alloc ?_ ?_); (focus (first | (simp; done) | (simp; omega) | omega | (simp at *; omega)))) | ((with_reducible refine bel_step (by assumption) ?_ ?_); (focus (first | (simp; done) | (simp; omega) | omega | (simp at *; omega))))))); rcases List.mem_cons.1 hp with rfl | hp; exact PA.step (by (repeat (first | (with_reducible exact Below.refl _ _) | (with_reducible assumption) | (with_reducible refine Below.drew ?_) | (with_reducible refine below_drewN ?_ _) | ((with_reducible refine bel_set ?_ ?_); (focus (first | (simp; done) | (simp; omega) | omega | (simp at *; omega)))) | (with_reducible refine bel_alloc0 ?_) | (with_reducible refine bel_step0 (by assumption) ?_) | ((with_reducible refine bel_alloc ?_ ?_); (focus (first | (simp; done) | (simp; omega) | omega | (simp at *; omega)))) | ((with_reducible refine bel_step (by assumption) ?_ ?_); (focus (first | (simp; done) | (simp; omega) | omega | (simp at *; omega))))))); rcases List.mem_cons.1 hp with rfl | hp; exact PB.step (by (repeat (first | (with_reducible exact Below.refl _ _) | (with_reducible assumption) | (with_reducible refine Below.drew ?_) | (with_reducible refine below_drewN ?_ _) | ((with_reducible refine bel_set ?_ ?_); (focus (first | (simp; done) | (simp; omega) | omega | (simp at *; omega)))) | (with_reducible refine bel_alloc0 ?_) | (with_reducible refine bel_step0 (by assumption) ?_) | ((with_reducible refine bel_alloc ?_ ?_); (focus (first | (simp; done) | (simp; omega) | omega | (simp at *; omega)))) | ((with_reducible refine bel_step (by assumption) ?_ ?_); (focus (first | (simp; done) | (simp; omega) | omega | (simp at *; omega))))))); cases hp }) (by first | exact Blk.made _ _ _ | exact Blk.made_at _ _ _ (by simp) | exact Blk.drew (Blk.made _ _ _) | exact Blk.drew (Blk.made_at _ _ _ (by simp)))).mono ?_); rintro e w7 ⟨v7, rfl, ho7, hb7⟩; obtain ⟨A7, c7, rfl⟩ := own_shape ho7; have B7 : Below wi.heap.size wi w7 := bel_step0 hb7 (by (repeat (first | (with_reducible exact Below.refl _ _) | (with_reducible assumption) | (with_reducible refine Below.drew ?_) | (with_reducible refine below_drewN ?_ _) | ((with_reducible refine bel_set ?_ ?_); (focus (first | (simp; done) | (simp; omega) | omega | (simp at *; omega)))) | (with_reducible refine bel_alloc0 ?_) | (with_reducible refine bel_step0 (by assumption) ?_) | ((with_reducible refine bel_alloc ?_ ?_); (focus (first | (simp; done) | (simp; omega) | omega | (simp at *; omega)))) | ((with_reducible refine bel_step (by assumption) ?_ ?_); (focus (first | (simp; done) | (simp; omega) | omega | (simp at *; omega)))))))))
        all_goals
          have HO7 : Hid (w7.ownsRow w.heap.size 5 1 (.slice A7 (OUT.length + (NA.length + NB.length)) c7) (OUT.length + (NA.length + NB.length)) (numL .u8 (OUT ++ (NA ++ NB)))) := by
            have h := own_mono ho7 (show w.heap.size ≤ _ from Nat.le_trans hz (Below.size (by (repeat (first | (with_reducible exact Below.refl _ _) | (with_reducible assumption) | (with_reducible refine Below.drew ?_) | (with_reducible refine below_drewN ?_ _) | ((with_reducible refine bel_set ?_ ?_); (focus (first | (simp; done) | (simp; omega) | omega | (simp at *; omega)))) | (with_reducible refine bel_alloc0 ?_) | (with_reducible refine bel_step0 (by assumption) ?_) | ((with_reducible refine bel_alloc ?_ ?_); (focus (first | (simp; done) | (simp; omega) | omega | (simp at *; omega)))) | ((with_reducible refine bel_step (by assumption) ?_ ?_); (focus (first | (simp; done) | (simp; omega) | omega | (simp at *; omega)))))))))
            simp only [List.flatMap_cons, List.flatMap_nil, List.append_nil, List.length_append] at h
            exact h
          have HB7 : Hid (Below w.heap.size w w7) := bel_step B7 hz HB.out
          have HL7 : Hid ((OUT ++ (NA ++ NB)).length ≤ 20 + 20 * (k + 1)) := by show _ ≤ _; rw [List.length_append, List.length_append]; omega
          clear ho7 hb7 PA PB B7 HO HB HL PO hoA hoB hbA hbB HC2 cn cz c1
          go_wp2_with fail
          go_roundw
          case measure => go_light; simp [intOf]; omega
          case rel => go_light; exact ⟨k + 1, by omega, by first | rfl | go_num, by rw [HSE.out, List.length_append, List.length_append]; exact HO7.out, by rw [HSE.out]; exact HL7.out, HB7.out⟩
      · obtain rfl : k = g := by omega
        have gk : decide ((k : Int) < (k : Int)) = false := by simp
        have gk' : decide (k < k) = false := by simp
        have eG : G.take k = G := List.take_of_length_le (by rw [HG.out]; exact Nat.le_refl _)
        have eS : S.take k = S := List.take_of_length_le (by rw [HS.out]; exact Nat.le_refl _)
        rw [eG, eS] at HO HL
        obtain ⟨A3, c3, rfl⟩ := own_shape HO.out
        have DA := Lib.hid (fun wx => num64_any wx x (by omega))
        have DB := Lib.hid (fun wx => num64_any wx y (by omega))
        have u3 : IntKind.u64.wrap (x : Int) = (x : Int) := by rw [IntKind.wrap_u64]; omega
        have u4 : IntKind.u64.wrap (y : Int) = (y : Int) := by rw [IntKind.wrap_u64]; omega
        have la := numB_len64 (x := x) (by omega)
        have lb := numB_len64 (x := y) (by omega)
        have HC2 : Hid (∀ wx, Below wi.heap.size wi wx → wx.cell? ⟨db, 2, none⟩ = some (.int .i64 (x : Nat)) ∧ wx.cell? ⟨db, 3, none⟩ = some (.int .i64 (y : Nat))) := fun wx h => ⟨((HBK.out.step HB.out).step h).cell 2, ((HBK.out.step HB.out).step h).cell 3⟩
        have PO : Hid (∀ wx, Below wi.heap.size wi wx → Part.Ok (⟨A3, c3, N1 ++ N2 ++ pairsP G S⟩ : Part) wx) := fun wx hb => (part_own HO.out rfl).step hb
        generalize numB x = NA at *
        generalize numB y = NB at *
        have hol := HL.out
        have HSE : Hid (dirP s G S x y = N1 ++ N2 ++ pairsP G S ++ (NA ++ NB)) := by show _ = _; rw [HDP.out]; simp only [List.append_assoc]
        generalize N1 ++ N2 ++ pairsP G S = OUT at *
        have hs3 : ∀ a1 a2 a3 a4 a5 a6, sumL [(⟨a1, a2, OUT⟩ : Part), ⟨a3, a4, NA⟩, ⟨a5, a6, NB⟩] ≤ 1000000 := fun _ _ _ _ _ _ => by simp [sumL]; omega
        clear eG eS HDP
        go_upto_region 7 with fail
        go_region_held3 (fun wx => wx.cell? ⟨db, 2, none⟩ = some (.int .i64 (x : Nat)) ∧ wx.cell? ⟨db, 3, none⟩ = some (.int .i64 (y : Nat))) (first | exact HC2.out _ ((Below.refl _ _).drew) | (refine HC2.out _ ?_; (repeat (first | (with_reducible exact Below.refl _ _) | (with_reducible assumption) | (with_reducible refine Below.drew ?_) | (with_reducible refine below_drewN ?_ _) | ((with_reducible refine bel_set ?_ ?_); (focus (first | (simp; done) | (simp; omega) | omega | (simp at *; omega)))) | (with_reducible refine bel_alloc0 ?_) | (with_reducible refine bel_step0 (by assumption) ?_) | ((with_reducible refine bel_alloc ?_ ?_); (focus (first | (simp; done) | (simp; omega) | omega | (simp at *; omega)))) | ((with_reducible refine bel_step (by assumption) ?_ ?_); (focus (first | (simp; done) | (simp; omega) | omega | (simp at *; omega)))))))) (first | (go_at_call 83; first | ((with_reducible refine (DA.out _).mono ?_); rintro e wA ⟨vA, rfl, hoA, hbA⟩; obtain ⟨AA, cA, rfl⟩ := own_shape hoA; have PA : Part.Ok (⟨AA, cA, NA⟩ : Part) wA := part_own hoA rfl) | ((with_reducible refine (DB.out _).mono ?_); rintro e wB ⟨vB, rfl, hoB, hbB⟩; obtain ⟨AB, cB, rfl⟩ := own_shape hoB; have PB : Part.Ok (⟨AB, cB, NB⟩ : Part) wB := part_own hoB rfl)) | (go_at_call 43; (refine (all_any _ _ 3 [(⟨A3, c3, OUT⟩ : Part), (⟨AA, cA, NA⟩ : Part), (⟨AB, cB, NB⟩ : Part)] rfl (by omega) (hs3 _ _ _ _ _ _) (fun p hp => by { rcases List.mem_cons.1 hp with rfl | hp; exact PO.out _ (by (repeat (first | (with_reducible exact Below.refl _ _) | (with_reducible assumption) | (with_reducible refine Below.drew ?_) | (with_reducible refine below_drewN ?_ _) | ((with_reducible refine bel_set ?_ ?_); (focus (first | (simp; done) | (simp; omega) | omega | (simp at *; omega)))) | (with_reducible refine bel_alloc0 ?_) | (with_reducible refine bel_step0 (by assumption) ?_) | ((with_reducible refine bel_alloc ?_ ?_); (focus (first | (simp; done) | (simp; omega) | omega | (simp at *; omega)))) | ((with_reducible refine bel_step (by assumption) ?_ ?_); (focus (first | (simp; done) | (simp; omega) | omega | (simp at *; omega))))))); rcases List.mem_cons.1 hp with rfl | hp; exact PA.step (by (repeat (first | (with_reducible exact Below.refl _ _) | (with_reducible assumption) | (with_reducible refine Below.drew ?_) | (with_reducible refine below_drewN ?_ _) | ((with_reducible refine bel_set ?_ ?_); (focus (first | (simp; done) | (simp; omega) | omega | (simp at *; omega)))) | (with_reducible refine bel_alloc0 ?_) | (with_reducible refine bel_step0 (by assumption) ?_) | ((with_reducible refine bel_alloc ?_ ?_); (focus (first | (simp; done) | (simp; omega) | omega | (simp at *; omega)))) | ((with_reducible refine bel_step (by assumption) ?_ ?_); (focus (first | (simp; done) | (simp; omega) | omega | (simp at *; omega))))))); rcases List.mem_cons.1 hp with rfl | hp; exact PB.step (by (repeat (first | (with_reducible exact Below.refl _ _) | (with_reducible assumption) | (with_reducible refine Below.drew ?_) | (with_reducible refine below_drewN ?_ _) | ((with_reducible refine bel_set ?_ ?_); (focus (first | (simp; done) | (simp; omega) | omega | (simp at *; omega)))) | (with_reducible refine bel_alloc0 ?_) | (with_reducible refine bel_step0 (by assumption) ?_) | ((with_reducible refine bel_alloc ?_ ?_); (focus (first | (simp; done) | (simp; omega) | omega | (simp at *; omega)))) | ((with_reducible refine bel_step (by assumption) ?_ ?_); (focus (first | (simp; done) | (simp; omega) | omega | (simp at *; omega))))))); cases hp }) (by first | exact Blk.made _ _ _ | exact Blk.made_at _ _ _ (by simp) | exact Blk.drew (Blk.made _ _ _) | exact Blk.drew (Blk.made_at _ _ _ (by simp)))).mono ?_); rintro e w7 ⟨v7, rfl, ho7, hb7⟩; obtain ⟨A7, c7, rfl⟩ := own_shape ho7; have B7 : Below wi.heap.size wi w7 := bel_step0 hb7 (by (repeat (first | (with_reducible exact Below.refl _ _) | (with_reducible assumption) | (with_reducible refine Below.drew ?_) | (with_reducible refine below_drewN ?_ _) | ((with_reducible refine bel_set ?_ ?_); (focus (first | (simp; done) | (simp; omega) | omega | (simp at *; omega)))) | (with_reducible refine bel_alloc0 ?_) | (with_reducible refine bel_step0 (by assumption) ?_) | ((with_reducible refine bel_alloc ?_ ?_); (focus (first | (simp; done) | (simp; omega) | omega | (simp at *; omega)))) | ((with_reducible refine bel_step (by assumption) ?_ ?_); (focus (first | (simp; done) | (simp; omega) | omega | (simp at *; omega)))))))))
        all_goals
          have HO7 : Hid (w7.ownsRow w.heap.size 5 1 (.slice A7 (OUT.length + (NA.length + NB.length)) c7) (OUT.length + (NA.length + NB.length)) (numL .u8 (OUT ++ (NA ++ NB)))) := by
            have h := own_mono ho7 (show w.heap.size ≤ _ from Nat.le_trans hz (Below.size (by (repeat (first | (with_reducible exact Below.refl _ _) | (with_reducible assumption) | (with_reducible refine Below.drew ?_) | (with_reducible refine below_drewN ?_ _) | ((with_reducible refine bel_set ?_ ?_); (focus (first | (simp; done) | (simp; omega) | omega | (simp at *; omega)))) | (with_reducible refine bel_alloc0 ?_) | (with_reducible refine bel_step0 (by assumption) ?_) | ((with_reducible refine bel_alloc ?_ ?_); (focus (first | (simp; done) | (simp; omega) | omega | (simp at *; omega)))) | ((with_reducible refine bel_step (by assumption) ?_ ?_); (focus (first | (simp; done) | (simp; omega) | omega | (simp at *; omega)))))))))
            simp only [List.flatMap_cons, List.flatMap_nil, List.append_nil, List.length_append] at h
            exact h
          have HB7 : Hid (Below w.heap.size w w7) := bel_step B7 hz HB.out
          clear ho7 hb7 PA PB B7 HO HB HL PO hoA hoB hbA hbB HC2
          go_wp2_with fail
          go_ret
          exact ⟨.slice A7 (OUT.length + (NA.length + NB.length)) c7, rfl, by rw [HSE.out, List.length_append, List.length_append]; exact HO7.out, HB7.out⟩
end Go.Proofs.YtcafklmbehoggaaGreatDoor.Body
namespace Go.Proofs.YtcafklmbehoggaaGreatDoor.Body
open Go.RowKit Go.Proofs.YtcafklmbehoggaaGreatDoor.Mem Go.Proofs.YtcafklmbehoggaaGreatDoor.Own Go.Proofs.YtcafklmbehoggaaGreatDoor.Canon Go.Proofs.YtcafklmbehoggaaGreatDoor.Recs Go.Proofs.YtcafklmbehoggaaGreatDoor.Idx
open Go.Proofs.YtcafklmbehoggaaGreatDoor.One (FrsAt FrsAt.step FrsAt.grown FrsAt.snoc own_grown)
open Go.Proofs.YtcafklmbehoggaaGreatDoor.NumPut
open Go.Proofs.YtcafklmbehoggaaGreatDoor.Ef (mayI mayI_of_rise)
structure MSt (base db : Nat) (vG pv vS : Value) (ps : List Part) (W : World) : Prop where
  dir : Blk W db 72 #[vG, vS, .int .i64 0, .int .i64 0]
  pr : W.ownsRow base 29 1 pv ps.length (ps.map Part.v)
  fr : FrsAt W base ps
  sr : W.ownsRow base 3 1 vS ps.length (numL .i64 (ps.map fun p => p.ls.length))
  gb : base ≤ db
section
variable {base db : Nat} {vG pv vS pv' vS' : Value} {ps : List Part} {W w' w8 w9 : World} {p : Part} {o1 o2 : Obj}
theorem MSt.step (h : MSt base db vG pv vS ps W) (b : Below W.heap.size W w') : MSt base db vG pv vS ps w' :=
  ⟨h.dir.step b, own_kept h.pr fun y hy => b.block y (World.ownsRow.lt h.pr y hy).2, h.fr.step b, own_kept h.sr fun y hy => b.block y (World.ownsRow.lt h.sr y hy).2, h.gb⟩
theorem MSt.mid (h : MSt base db vG pv vS ps W) (g8 : (W.alloc o1).grownBy w8 pv.ownBlock) : Blk w8 db 72 #[vG, vS, .int .i64 0, .int .i64 0] ∧ w8.ownsRow base 3 1 vS ps.length (numL .i64 (ps.map fun p => p.ls.length)) :=
  ⟨(h.dir.alloc o1).grown g8 (Ne.symm (own_blk h.pr h.dir (by decide))), own_grown (h.sr.alloc o1) (h.pr.alloc o1) (by decide) g8⟩
theorem MSt.round (h : MSt base db vG pv vS ps W) (hp : W.ownsRow base 5 1 p.v p.ls.length (numL .u8 p.ls)) (g8 : (W.alloc o1).grownBy w8 pv.ownBlock) (o8 : w8.ownsRow base 29 1 pv' (ps.length + 1) (ps.map Part.v ++ [p.v]))
    (g9 : (w8.alloc o2).grownBy w9 vS.ownBlock) (o9 : w9.ownsRow base 3 1 vS' (ps.length + 1) (numL .i64 (ps.map fun p => p.ls.length) ++ [.int .i64 (p.ls.length : Nat)])) :
    MSt base db vG pv' vS' (ps ++ [p]) (w9.setCell ⟨db, 1, none⟩ vS') ∧ Below base W (w9.setCell ⟨db, 1, none⟩ vS') := by
  obtain ⟨d8, s8⟩ := h.mid g8
  have d9 : Blk w9 db 72 #[vG, vS, .int .i64 0, .int .i64 0] := (d8.alloc o2).grown g9 (Ne.symm (own_blk s8 d8 (by decide)))
  have hp8 := own_grown (hp.alloc o1) (h.pr.alloc o1) (by decide) g8
  have hp9 := own_grown (hp8.alloc o2) (s8.alloc o2) (by decide) g9
  have f8 : FrsAt w8 base ps := (h.fr.step (bel_alloc0 (Below.refl _ _))).grown (h.pr.alloc o1) g8
  have f9 : FrsAt w9 base ps := fun q hq => own_grown ((f8 q hq).alloc o2) (s8.alloc o2) (by decide) g9
  have o89 := own_grown (o8.alloc o2) (s8.alloc o2) (by decide) g9
  have hB : base ≤ W.heap.size := by have := h.dir.lt; have := h.gb; omega
  have far : ∀ {s n : Nat} {e : TypeId} {v : Value} {xs : List Value}, w9.ownsRow base e s v n xs → e ≠ 72 → (w9.setCell ⟨db, 1, none⟩ vS').ownsRow base e s v n xs := fun ho hne =>
    own_kept ho fun y hy => Below.heap_setCell _ _ _ y fun e => own_blk ho d9 hne (by rw [hy, e])
  refine ⟨⟨by simpa using d9.set 1 vS', ?_, fun q hq => ?_, ?_, h.gb⟩, ?_⟩
  · rw [List.length_append, List.map_append]
    exact far o89 (by decide)
  · rcases List.mem_append.1 hq with hq | hq
    · exact far (f9 q hq) (by decide)
    · rw [List.mem_singleton.1 hq]
      exact far hp9 (by decide)
  · have e1 : numL .i64 ((ps ++ [p]).map fun p => p.ls.length) = numL .i64 (ps.map fun p => p.ls.length) ++ [.int .i64 (p.ls.length : Nat)] := by simp [numL]
    rw [List.length_append, e1]
    exact far o9 (by decide)
  · have hz8 : base ≤ w8.heap.size := Nat.le_trans hB (Nat.le_trans (by simp) g8.size)
    exact ((((Below.refl base W).alloc hB _).grown g8 (by simp; omega) fun y hy => (World.ownsRow.lt h.pr y hy).1).alloc hz8 _ |>.grown g9 (by simp; omega) fun y hy => (World.ownsRow.lt s8 y hy).1).setCell (p := ⟨db, 1, none⟩) h.gb _
theorem MSt.stores (h : MSt base db vG pv vS ps W) (x y : Value) :
    Blk ((W.setCell ⟨db, 2, none⟩ x).setCell ⟨db, 3, none⟩ y) db 72 #[vG, vS, x, y] ∧ Below base W ((W.setCell ⟨db, 2, none⟩ x).setCell ⟨db, 3, none⟩ y) ∧
      ∀ {b s n : Nat} {e : TypeId} {v : Value} {xs : List Value}, W.ownsRow b e s v n xs → e ≠ 72 → ((W.setCell ⟨db, 2, none⟩ x).setCell ⟨db, 3, none⟩ y).ownsRow b e s v n xs := by
  refine ⟨by simpa using (h.dir.set 2 x).set 3 y, ((Below.refl base W).setCell (p := ⟨db, 2, none⟩) h.gb _).setCell (p := ⟨db, 3, none⟩) h.gb _, fun ho hne => ?_⟩
  refine own_kept ho fun z hz => ?_
  have hd : z ≠ db := fun e => own_blk ho h.dir hne (by rw [hz, e])
  exact (Below.heap_setCell _ _ _ z hd).trans (Below.heap_setCell _ _ _ z hd)
end
theorem risesT_of : ∀ (l : List Str) (was : Str), (∀ s ∈ l, was < s) → (∀ s ∈ l, 1 ≤ s.length ∧ s.length ≤ 25) → Rising l → risesT was l = true
  | [], _, _, _, _ => rfl
  | s :: t, was, h, hs, hr => by
    obtain ⟨h1, h2⟩ := List.pairwise_cons.1 hr
    rw [risesT, Bool.and_eq_true]
    refine ⟨?_, risesT_of t s h1 (fun x hx => hs x (List.mem_cons_of_mem _ hx)) h2⟩
    unfold mayT
    rw [Bool.and_eq_true, Bool.and_eq_true, decide_eq_true_iff, decide_eq_true_iff, decide_eq_true_iff]
    exact ⟨(hs s List.mem_cons_self).1, (hs s List.mem_cons_self).2, h s List.mem_cons_self⟩
theorem all_small {l : List Rec} {s : Str} (h : s ∈ allT (l.map termsR)) : 1 ≤ s.length ∧ s.length ≤ 25 := by
  obtain ⟨t, ht, hs⟩ := (allT_mem s _).1 h
  obtain ⟨r, _, rfl⟩ := List.mem_map.1 ht
  exact term_small hs
theorem all_may {l : List Rec} (h : (allT (l.map termsR)).length ≤ 1048576) : mayD (allT (l.map termsR)) = true := by
  unfold mayD
  rw [Bool.and_eq_true]
  refine ⟨risesT_of _ _ (fun s hs => ?_) (fun s hs => all_small hs) (allT_rising _), decide_eq_true h⟩
  have := (all_small hs).1
  cases s with
  | nil => simp at this
  | cons x t => exact List.nil_lt_cons x t
theorem ids_may (ts : List (List Str)) (u : Str) : mayI ts.length none (idsT ts u) = true := by
  refine mayI_of_rise _ _ none (fun x hx => ?_) ?_ (fun y hy => by cases hy)
  · unfold idsT at hx
    exact List.mem_range.1 (List.mem_filter.1 hx).1
  · unfold idsT
    exact List.Pairwise.filter _ List.pairwise_lt_range
theorem ids_ok (l : List Rec) : mayLs l.length ((allT (l.map termsR)).map (idsT (l.map termsR))) = true ∧ ∀ x ∈ (allT (l.map termsR)).map (idsT (l.map termsR)), x ≠ [] ∧ x.length ≤ l.length := by
  refine ⟨List.all_eq_true.2 fun x hx => ?_, fun x hx => ?_⟩
  · obtain ⟨u, _, rfl⟩ := List.mem_map.1 hx
    have := ids_may (l.map termsR) u
    rw [List.length_map] at this
    exact this
  · obtain ⟨u, hu, rfl⟩ := List.mem_map.1 hx
    have h2 := idsT_le (l.map termsR) u
    rw [List.length_map] at h2
    exact ⟨(idsT_ne _ u).1 hu, h2⟩
theorem textS_u8 (s : Str) : ∀ x ∈ textS s, x ≤ 255 := fun x h => by
  unfold textS natS at h
  rcases List.mem_append.1 h with h | h
  · exact numB_u8 _ x h
  · obtain ⟨c, _, rfl⟩ := List.mem_map.1 h
    have := c.toNat_lt
    omega
theorem restB_u8 : ∀ (t : List Str) (was : Str), ∀ x ∈ restB was t, x ≤ 255
  | [], _, x, h => by simp [restB] at h
  | s :: t, was, x, h => by
    rw [restB] at h
    simp only [List.mem_append] at h
    rcases h with (h | h) | h
    · exact numB_u8 _ x h
    · exact textS_u8 _ x h
    · exact restB_u8 t s x h
theorem bucketB_u8 (l : List Str) : ∀ x ∈ bucketB l, x ≤ 255 := fun x h => by
  cases l with
  | nil => simp [bucketB] at h
  | cons s t =>
    rw [bucketB] at h
    rcases List.mem_append.1 h with h | h
    · exact textS_u8 _ x h
    · exact restB_u8 t s x h
theorem dictO_u8 (size : Nat) (l : List Str) : ∀ x ∈ dictO size l, x ≤ 255 := fun x h => by
  unfold dictO at h
  simp only [List.mem_append, List.mem_flatMap] at h
  rcases h with (h | ⟨c, _, h⟩) | ⟨c, _, h⟩
  · exact numB_u8 _ x h
  · exact numB_u8 _ x h
  · exact bucketB_u8 _ x h
theorem efO_u8 (bound : Nat) (l : List Nat) : ∀ x ∈ Ef.efO bound l, x ≤ 255 := fun x h => by
  unfold Ef.efO at h
  split at h
  · exact numB_u8 _ x h
  · rcases List.mem_append.1 h with h | h
    · exact numB_u8 _ x h
    · obtain ⟨k, _, rfl⟩ := List.mem_map.1 h
      exact Huff.byteAt_le _ k
theorem ixR_u8 (o : Opts.Opt) (l : List Rec) : ∀ x ∈ ixR o l, x ≤ 255 := fun x h => by
  unfold ixR ixO listsO at h
  rcases List.mem_append.1 h with h | h
  · exact dictO_u8 _ _ x h
  · obtain ⟨c, _, h⟩ := List.mem_flatMap.1 h
    exact efO_u8 _ _ x h
theorem optB_ok {o : Opts.Opt} (h : Opts.optB o = 0) : 16 ≤ o.block ∧ o.block ≤ 32768 ∧ 1 ≤ o.bucket ∧ o.bucket ≤ 64 := by
  unfold Opts.optB Opts.optE2 at h
  split at h
  · rename_i hc
    exact ⟨hc.1.1, hc.1.2, hc.2.1.1, hc.2.1.2⟩
  · cases h
end Go.Proofs.YtcafklmbehoggaaGreatDoor.Body
namespace Go.Proofs.YtcafklmbehoggaaGreatDoor.Body
open Go.RowKit Go.Proofs.YtcafklmbehoggaaGreatDoor.Mem Go.Proofs.YtcafklmbehoggaaGreatDoor.Own Go.Proofs.YtcafklmbehoggaaGreatDoor.Canon Go.Proofs.YtcafklmbehoggaaGreatDoor.NumPut Go.Proofs.YtcafklmbehoggaaGreatDoor.Crc
open Go.Proofs.YtcafklmbehoggaaGreatDoor.Recs Go.Proofs.YtcafklmbehoggaaGreatDoor.Idx
open Go.Proofs.YtcafklmbehoggaaGreatDoor.Block (part_own)
open Go.Proofs.YtcafklmbehoggaaGreatDoor.One (FrsAt FrsAt.step)
structure JS (base : Nat) (O D : List Nat) (vo vd : Value) (W : World) : Prop where
  oo : W.ownsRow base 5 1 vo O.length (numL .u8 O)
  od : W.ownsRow base 5 1 vd D.length (numL .u8 D)
  ap : Apt vo vd
section
variable {base : Nat} {O D X : List Nat} {vo vd v' : Value} {W w' : World}
theorem JS.step (h : JS base O D vo vd W) (b : Below W.heap.size W w') : JS base O D vo vd w' :=
  ⟨own_kept h.oo fun y hy => b.block y (World.ownsRow.lt h.oo y hy).2, own_kept h.od fun y hy => b.block y (World.ownsRow.lt h.od y hy).2, h.ap⟩
theorem JS.dirA (h : JS base O D vo vd W) (hB : base ≤ W.heap.size) (g : W.grownBy w' vd.ownBlock) (o : w'.ownsRow base 5 1 v' (D.length + X.length) (numL .u8 D ++ numL .u8 X)) (t : v'.ownBlock = vd.ownBlock ∨ v'.ownBlock = some W.heap.size) :
    JS base O (D ++ X) vo v' w' ∧ Below base W w' := by
  obtain ⟨a, b⟩ := app_other h.oo h.ap.symm g t
  refine ⟨⟨a, ?_, b.symm⟩, (Below.refl base W).grown g hB fun y hy => (World.ownsRow.lt h.od y hy).1⟩
  rw [List.length_append, show numL .u8 (D ++ X) = numL .u8 D ++ numL .u8 X by simp [numL]]
  exact o
theorem JS.outA (h : JS base O D vo vd W) (hB : base ≤ W.heap.size) (g : W.grownBy w' vo.ownBlock) (o : w'.ownsRow base 5 1 v' (O.length + X.length) (numL .u8 O ++ numL .u8 X)) (t : v'.ownBlock = vo.ownBlock ∨ v'.ownBlock = some W.heap.size) :
    JS base (O ++ X) D v' vd w' ∧ Below base W w' := by
  obtain ⟨a, b⟩ := app_other h.od h.ap g t
  refine ⟨⟨?_, a, b⟩, (Below.refl base W).grown g hB fun y hy => (World.ownsRow.lt h.oo y hy).1⟩
  rw [List.length_append, show numL .u8 (O ++ X) = numL .u8 O ++ numL .u8 X by simp [numL]]
  exact o
end
structure JE (base : Nat) (vo vd u : Value) (m : Nat) (ys : List Value) (W : World) : Prop where
  own : W.ownsRow base 5 1 u m ys
  ao : Apt vo u
  ad : Apt vd u
section
variable {base m : Nat} {O D X : List Nat} {vo vd v' u : Value} {ys : List Value} {W w' : World}
theorem JE.new (h : JS base O D vo vd W) (hB : base ≤ W.heap.size) (o : w'.ownsRow W.heap.size 5 1 u m ys) : JE base vo vd u m ys w' :=
  ⟨own_mono o hB, (apt_new o (Nat.le_refl _) fun x hx => (World.ownsRow.lt h.oo x hx).2).symm, (apt_new o (Nat.le_refl _) fun x hx => (World.ownsRow.lt h.od x hx).2).symm⟩
theorem JE.step (h : JE base vo vd u m ys W) (b : Below W.heap.size W w') : JE base vo vd u m ys w' := ⟨own_kept h.own fun y hy => b.block y (World.ownsRow.lt h.own y hy).2, h.ao, h.ad⟩
theorem JE.dirA (h : JE base vo vd u m ys W) (g : W.grownBy w' vd.ownBlock) (t : v'.ownBlock = vd.ownBlock ∨ v'.ownBlock = some W.heap.size) : JE base vo v' u m ys w' := by
  obtain ⟨a, b⟩ := app_other h.own h.ad g t
  exact ⟨a, h.ao, b⟩
theorem JE.outA (h : JE base vo vd u m ys W) (g : W.grownBy w' vo.ownBlock) (t : v'.ownBlock = vo.ownBlock ∨ v'.ownBlock = some W.heap.size) : JE base v' vd u m ys w' := by
  obtain ⟨a, b⟩ := app_other h.own h.ao g t
  exact ⟨a, b, h.ad⟩
end
theorem src_part {w : World} {p : Part} (h : p.Ok w) : Src w p.A p.ls.length p.c 1 (numL .u8 p.ls) := by
  refine ⟨by simp [numL], ?_⟩
  by_cases h0 : 0 < p.ls.length
  · obtain ⟨b, off, hA, _, hc⟩ := h.row h0
    refine .inr ⟨_, hA, fun j u hu => ?_⟩
    have hj : j < p.ls.length := by
      refine Decidable.byContradiction fun hn => ?_
      have hn' : (numL .u8 p.ls).length ≤ j := by simp [numL]; omega
      rw [List.getElem?_eq_none hn'] at hu
      cases hu
    have hcj := hc j 0 hj (by omega)
    rw [Nat.mul_one, Nat.add_zero] at hcj
    rw [add_none, hcj, ← hu]
    have hg := Huff.numL_get (k := .u8) hj
    rw [Nat.mul_one, Nat.add_zero] at hg
    rw [hg]
  · cases hA : p.A with
    | none => exact .inl ⟨rfl, (h.nil hA).1, (h.nil hA).2⟩
    | some a =>
      refine .inr ⟨a, rfl, fun j u hu => ?_⟩
      have h1 : (numL .u8 p.ls).length = 0 := by rw [show (numL .u8 p.ls).length = p.ls.length by simp [numL]]; omega
      rw [List.getElem?_eq_none (by rw [h1]; exact Nat.zero_le _)] at hu
      cases hu
set_option maxHeartbeats 8000000 in
set_option maxRecDepth 100000 in
theorem rjoin20_any (w : World) (n g base cF cG cc cx : Nat) (AF AG AC AX : Option Addr) (ps : List Part) (G CB IX : List Nat) (hn : n ≤ 1000000) (hg : g ≤ 20000) (hpl : ps.length = g) (hGl : G.length = g) (hGb : ∀ z ∈ G, z ≤ 1000000) (hfl : (ps.map Part.ls).flatten.length ≤ 500000) (hcl : CB.length ≤ 900000) (hxl : IX.length ≤ 900000) (hc8 : ∀ x ∈ CB, x ≤ 255) (hx8 : ∀ x ∈ IX, x ≤ 255)
    (ho : w.ownsRow base 29 1 (.slice AF g cF) g (ps.map Part.v)) (hfs : FrsAt w base ps) (hG : Row w w.heap.size AG g 1 (numF .i64 G)) (hC : Part.Ok (⟨AC, cc, CB⟩ : Part) w) (hX : Part.Ok (⟨AX, cx, IX⟩ : Part) w) :
    Calls Tryz.prog 30 #[.int .i64 (n : Nat), .slice AF g cF, .slice AG g cG, .slice AC CB.length cc, .slice AX IX.length cx] w fun e w' => ∃ v, e = .returned v ∧ w'.ownsRow w.heap.size 5 1 v (joinP n G (ps.map Part.ls) CB IX).length (numL .u8 (joinP n G (ps.map Part.ls) CB IX)) ∧ Below w.heap.size w w' := by
  obtain ⟨j0, hj0, hy0, hy1, hy2⟩ := info_parts info_u8
  have D1 := Lib.hid (fun wx => rnum64_any wx n (by omega))
  have D2 := Lib.hid (fun wx => rnum64_any wx g (by omega))
  have l1 := numB_len64 (x := n) (by omega)
  have l2 := numB_len64 (x := g) (by omega)
  have u1 : IntKind.u64.wrap (n : Int) = (n : Int) := by rw [IntKind.wrap_u64]; omega
  have u2 : IntKind.u64.wrap (g : Int) = (g : Int) := by rw [IntKind.wrap_u64]; omega
  obtain ⟨SZ, hSZ⟩ : ∃ SZ, SZ = (ps.map Part.ls).map List.length := ⟨_, rfl⟩
  have hSl : SZ.length = g := by rw [hSZ, List.length_map, List.length_map]; exact hpl
  have HJP : Hid (joinP n G (ps.map Part.ls) CB IX = (ps.map Part.ls).flatten ++ (putC CB ++ (putC IX ++ (putC (dirP n G SZ (putC CB).length (putC IX).length) ++ fix4 (putC (dirP n G SZ (putC CB).length (putC IX).length)).length)))) := by show _ = _; unfold joinP; rw [hSZ]
  have HDP : Hid (∀ x y, dirP n G SZ x y = numB n ++ numB g ++ pairsP G SZ ++ (numB x ++ numB y)) := fun x y => by unfold dirP; rw [hGl]; simp only [List.append_assoc]
  have HPL := Lib.hid hpl
  have HGL := Lib.hid hGl
  have HSL := Lib.hid hSl
  have HGB := Lib.hid hGb
  have HFL := Lib.hid hfl
  have HC8 := Lib.hid hc8
  have HX8 := Lib.hid hx8
  have HO := Lib.hid ho
  have HFS := Lib.hid hfs
  have HRG : Hid (Row w w.heap.size AG g 1 (numF .i64 G)) := hG
  have HC := Lib.hid hC
  have HX := Lib.hid hX
  have HSZ := Lib.hid hSZ
  clear hpl hGl hSl hGb hfl hc8 hx8 ho hfs hG hC hX hSZ
  go_enter Tryz.func30, Tryz.ntmps30
  go_wp2_with fail
  refine (D1.out _).mono ?_
  rintro e w1 ⟨v1, rfl, ho1, hb1⟩
  have HJ1 : Hid (JS w.heap.size [] (numB n) (.slice none 0 0) v1 w1) := ⟨World.ownsRow_nil _ _ _ _, ho1, fun _ h => by cases h⟩
  obtain ⟨A1, c1, rfl⟩ := own_shape ho1
  have HB := Lib.hid hb1
  clear ho1 hb1 D1
  obtain ⟨NA, hNA⟩ : ∃ NA, NA = numB g := ⟨_, rfl⟩
  rw [← hNA] at D2 l2
  have DNA := Lib.hid D2.out
  have HJ := Lib.hid HJ1.out
  have HNA := Lib.hid hNA
  clear D2 HJ1 hNA
  go_wp2_with fail
  refine (DNA.out _).mono ?_
  rintro e wA ⟨vA, rfl, hoA, hbA⟩
  obtain ⟨AA, cA, rfl⟩ := own_shape hoA
  have HSA : Hid (Src wA AA NA.length cA 1 (numL .u8 NA)) := src_row7 hoA
  have HJA := Lib.hid (HJ.out.step hbA)
  have HBA : Hid (Below w.heap.size w wA) := bel_step hbA HB.out.size HB.out
  have hzA := HBA.out.size
  clear hoA hbA DNA HJ HB
  go_wp2_with (at_builtin; refine wpList_app rfl (.tmp 21) (.tmp 25) 29 rfl w.heap.size 5 j0 _ 1 1 Tryz.underlying29 hj0 hy0 hy1 hy2 rfl (by decide) _ _ _ (by rfl) HJA.out.od _ _ _ _ (by rfl) HSA.out (numL_one _ _) (by unfold maxLen; omega) (by omega) hzA ?_; intro v2 w2 hown2 hg2 hat2; have q := HJA.out.dirA hzA hg2 hown2 hat2; obtain ⟨A2, c2, rfl⟩ := own_shape hown2; have HJ2 := Lib.hid q.1; have HB2 : Hid (Below w.heap.size w w2) := HBA.out.trans q.2; clear q hown2 hg2 hat2 HJA HSA HBA)
  have HDIR0 : Hid (numB n ++ NA = numB n ++ numB g ++ pairsP (G.take 0) (SZ.take 0)) := by show _ = _; rw [HNA.out]; simp [pairsP]
  rw [HDIR0.out] at HJ2
  have HJ3 : Hid (JS w.heap.size ((ps.take 0).map Part.ls).flatten (numB n ++ numB g ++ pairsP (G.take 0) (SZ.take 0)) (.slice none 0 0) (.slice A2 ((numB n).length + NA.length) c2) w2) := HJ2.out
  have HLD0 : Hid ((numB n ++ numB g ++ pairsP (G.take 0) (SZ.take 0)).length ≤ 20 + 20 * 0) := by
    show _ ≤ _
    rw [← HDIR0.out, List.length_append]
    omega
  clear HJ2
  go_wp2_with fail
  go_loopw [11, 12, 13] (fun ov dv iv wr => ∃ k : Nat, k ≤ g ∧ iv = .int .i64 k ∧ Hid (JS w.heap.size ((ps.take k).map Part.ls).flatten (numB n ++ numB g ++ pairsP (G.take k) (SZ.take k)) ov dv wr) ∧ Hid ((numB n ++ numB g ++ pairsP (G.take k) (SZ.take k)).length ≤ 20 + 20 * k) ∧ Hid (Below w.heap.size w wr)) (fun _ _ iv _ => g - (intOf iv).toNat)
  case atStart => exact ⟨0, by omega, rfl, HJ3.out, HLD0.out, HB2.out⟩
  case round =>
    obtain ⟨k, hk, rfl, HJ, HLD, HB⟩ := hrel
    clear HJ3 HLD0 HB2 HDIR0
    obtain ⟨wi, rfl⟩ : ∃ wi : World, wi = wr := ⟨_, rfl⟩
    have hz := HB.out.size
    by_cases hlt : k < g
    · have gk : decide ((k : Int) < (g : Int)) = true := by simp; omega
      have gk' : decide (k < g) = true := by simp; omega
      have x0 : (0 : Int) ≤ (k : Int) := by omega
      have x1 : (k : Int) < (g : Int) := by omega
      obtain ⟨bg, og, m, rfl, hbg, hm, cm⟩ := num_cell (HRG.out.below HB.out) HGL.out hlt
      have hkl : k < ps.length := by rw [HPL.out]; exact hlt
      obtain ⟨P, hP⟩ : ∃ P, P = ps[k] := ⟨_, rfl⟩
      have hPk : ps[k]? = some P := by rw [hP]; exact List.getElem?_eq_getElem hkl
      have hOw : wi.ownsRow base 29 1 (.slice AF g cF) g (ps.map Part.v) := own_kept HO.out fun y hy => HB.out.block y (World.ownsRow.lt HO.out y hy).2
      obtain ⟨gf, gc, hAF, _, _⟩ := hOw.form (by omega)
      injection hAF with e1 e2 e3
      subst e1 e3
      have hgf : gf < w.heap.size := (World.ownsRow.lt HO.out gf rfl).2
      have cf : w.cell? ⟨gf, k, none⟩ = some P.v := (Lz.own_cells HO.out hlt).1.trans (by rw [List.getElem?_map, hPk]; rfl)
      have HCF : Hid (∀ wx, Below w.heap.size w wx → wx.cell? ⟨gf, k, none⟩ = some P.v) := fun wx h => (h.cell (p := ⟨gf, k, none⟩) hgf).trans cf
      have HPO : Hid (∀ wx, Below w.heap.size w wx → Part.Ok P wx) := fun wx h => (part_own (HFS.out P (by rw [hP]; exact List.getElem_mem hkl)) rfl).step h
      have hml := HGB.out m (List.mem_of_getElem? hm)
      have hSk : SZ[k]? = some P.ls.length := by rw [HSZ.out, List.getElem?_map, List.getElem?_map, hPk]; rfl
      have hpl1 : P.ls.length ≤ 500000 := Nat.le_trans (One.flat_le (List.mem_map.2 ⟨P, by rw [hP]; exact List.getElem_mem hkl, rfl⟩)) HFL.out
      have hst := pairsP_step hm hSk
      have hot : ((ps.take (k + 1)).map Part.ls).flatten = ((ps.take k).map Part.ls).flatten ++ P.ls := by rw [List.take_add_one, hPk]; simp
      have hol : ((ps.take k).map Part.ls).flatten.length ≤ 500000 := by
        refine Nat.le_trans ?_ HFL.out
        conv => rhs; rw [← List.take_append_drop k ps]
        rw [List.map_append, List.flatten_append, List.length_append]
        omega
      have DNA := Lib.hid (fun wx => rnum64_any wx m (by omega))
      have DNB := Lib.hid (fun wx => rnum64_any wx P.ls.length (by omega))
      have la := numB_len64 (x := m) (by omega)
      have lb := numB_len64 (x := P.ls.length) (by omega)
      have u3 : IntKind.u64.wrap (m : Int) = (m : Int) := by rw [IntKind.wrap_u64]; omega
      obtain ⟨pA, pc, pls⟩ := P
      simp only [Part.v] at HCF hot hst hpl1 hSk lb DNB HPO
      have u4 : IntKind.u64.wrap (pls.length : Int) = (pls.length : Int) := by rw [IntKind.wrap_u64]; omega
      have HSE : Hid (numB n ++ numB g ++ pairsP (G.take (k + 1)) (SZ.take (k + 1)) = numB n ++ numB g ++ pairsP (G.take k) (SZ.take k) ++ numB m ++ numB pls.length) := by show _ = _; rw [hst]; simp only [List.append_assoc]
      obtain ⟨NB, hNB⟩ : ∃ NB, NB = numB pls.length := ⟨_, rfl⟩
      rw [← hNB] at HSE DNB lb
      obtain ⟨NA, hNA⟩ : ∃ NA, NA = numB m := ⟨_, rfl⟩
      rw [← hNA] at HSE DNA la
      have HOE : Hid (((ps.take (k + 1)).map Part.ls).flatten = ((ps.take k).map Part.ls).flatten ++ pls) := hot
      have hdl := HLD.out
      generalize numB n ++ numB g ++ pairsP (G.take k) (SZ.take k) = DI at *
      generalize ((ps.take k).map Part.ls).flatten = OU at *
      obtain ⟨Ao, co, rfl⟩ := own_shape HJ.out.oo
      obtain ⟨Ad, cd, rfl⟩ := own_shape HJ.out.od
      clear hm hkl hP hPk hOw cf hml hSk hst hot hNA hNB HLD
      go_wp2_with fail
      refine (DNA.out _).mono ?_
      rintro e wA ⟨vA, rfl, hoA, hbA⟩
      obtain ⟨AA, cA, rfl⟩ := own_shape hoA
      have HSA : Hid (Src wA AA NA.length cA 1 (numL .u8 NA)) := src_row7 hoA
      have HJA := Lib.hid (HJ.out.step hbA)
      have HBA : Hid (Below w.heap.size w wA) := bel_step hbA HB.out.size HB.out
      have hzA := HBA.out.size
      clear hoA hbA DNA HJ HB
      go_wp2_with (at_builtin; refine wpList_app rfl (.tmp 33) (.tmp 39) 29 rfl w.heap.size 5 j0 _ 1 1 Tryz.underlying29 hj0 hy0 hy1 hy2 rfl (by decide) _ _ _ (by rfl) HJA.out.od _ _ _ _ (by rfl) HSA.out (numL_one _ _) (by unfold maxLen; omega) (by omega) hzA ?_; intro v2 w2 hown2 hg2 hat2; have q2 := HJA.out.dirA hzA hg2 hown2 hat2; obtain ⟨A2, c2, rfl⟩ := own_shape hown2; have HJ2 := Lib.hid q2.1; have HB2 : Hid (Below w.heap.size w w2) := HBA.out.trans q2.2; have hz2 := HB2.out.size; clear q2 hown2 hg2 hat2; have cf2 := HCF.out w2 HB2.out)
      clear HJA HSA HBA hzA
      have hd2 : (DI ++ NA).length ≤ 30 + 20 * k := by rw [List.length_append]; omega
      refine (DNB.out _).mono ?_
      rintro e wB ⟨vB, rfl, hoB, hbB⟩
      obtain ⟨AB, cB, rfl⟩ := own_shape hoB
      have HSB : Hid (Src wB AB NB.length cB 1 (numL .u8 NB)) := src_row7 hoB
      have HJB := Lib.hid (HJ2.out.step hbB)
      have HBB : Hid (Below w.heap.size w wB) := bel_step hbB HB2.out.size HB2.out
      have hzB := HBB.out.size
      clear hoB hbB DNB HJ2 HB2
      have cfB := HCF.out wB HBB.out
      go_wp2_with (first | (at_builtin; refine wpList_app rfl (.tmp 41) (.tmp 48) 29 rfl w.heap.size 5 j0 _ 1 1 Tryz.underlying29 hj0 hy0 hy1 hy2 rfl (by decide) _ _ _ (by rfl) HJB.out.od _ _ _ _ (by rfl) HSB.out (numL_one _ _) (by unfold maxLen; omega) (by omega) hzB ?_; intro v3 w3 hown3 hg3 hat3; have q3 := HJB.out.dirA hzB hg3 hown3 hat3; obtain ⟨A3, c3, rfl⟩ := own_shape hown3; have HJ3 := Lib.hid q3.1; have HB3 : Hid (Below w.heap.size w w3) := HBB.out.trans q3.2; have hz3 := HB3.out.size; clear q3 hown3 hg3 hat3; have cf3 := HCF.out w3 HB3.out; have HS3 : Src w3 pA pls.length pc 1 (numL .u8 pls) := src_part (HPO.out w3 HB3.out)) | (at_builtin; refine wpList_app rfl (.tmp 50) (.tmp 54) 29 rfl w.heap.size 5 j0 _ 1 1 Tryz.underlying29 hj0 hy0 hy1 hy2 rfl (by decide) _ _ _ (by rfl) HJ3.out.oo _ _ _ _ (by rfl) HS3 (numL_one _ _) (by unfold maxLen; omega) (by omega) hz3 ?_; intro v4 w4 hown4 hg4 hat4; have q4 := HJ3.out.outA hz3 hg4 hown4 hat4; obtain ⟨A4, c4, rfl⟩ := own_shape hown4; have HJ4 := Lib.hid q4.1; have HB4 : Hid (Below w.heap.size w w4) := HB3.out.trans q4.2; have hz4 := HB4.out.size; clear q4 hown4 hg4 hat4; skip))
      have hj4 := HJ4.out
      simp only [List.length_append] at hj4
      have HJ5 := Lib.hid hj4
      clear hj4
      have HLD4 : Hid ((DI ++ NA ++ NB).length ≤ 20 + 20 * (k + 1)) := by show _ ≤ _; rw [List.length_append]; omega
      go_roundw
      case measure => go_light; simp [intOf]; omega
      case rel => go_light; exact ⟨k + 1, by omega, by first | rfl | go_num, by rw [HSE.out, HOE.out]; exact HJ5.out, by rw [HSE.out]; exact HLD4.out, HB4.out⟩
    · obtain rfl : k = g := by omega
      have gk : decide ((k : Int) < (k : Int)) = false := by simp
      have gk' : decide (k < k) = false := by simp
      have eG : G.take k = G := List.take_of_length_le (by rw [HGL.out]; exact Nat.le_refl _)
      have eS : SZ.take k = SZ := List.take_of_length_le (by rw [HSL.out]; exact Nat.le_refl _)
      have eP : ps.take k = ps := List.take_of_length_le (by rw [HPL.out]; exact Nat.le_refl _)
      rw [eG, eS] at HJ HLD
      rw [eP] at HJ
      have hdl := HLD.out
      have hol := HFL.out
      have HDE := Lib.hid (HDP.out (putC CB).length (putC IX).length)
      have hd8 := dirP_u8 n G SZ (putC CB).length (putC IX).length
      rw [putC_len CB, putC_len IX] at HDE hd8 HJP
      generalize dirP n G SZ (CB.length + 4) (IX.length + 4) = DD at *
      generalize numB n ++ numB k ++ pairsP G SZ = DI at *
      generalize (ps.map Part.ls).flatten = OU at *
      obtain ⟨Ao, co, rfl⟩ := own_shape HJ.out.oo
      obtain ⟨Ad, cd, rfl⟩ := own_shape HJ.out.od
      have HCw := Lib.hid (HC.out)
      have E1 := Lib.hid (rput_any wi AC CB.length cc CB rfl (by omega) HC.out.nil HC8.out ((HC.out.row.below HB.out).mono hz))
      have E2 := Lib.hid (fun wx (h : Below w.heap.size w wx) => rput_any wx AX IX.length cx IX rfl (by omega) HX.out.nil HX8.out ((HX.out.row.below h).mono h.size))
      unfold PutPost at E1 E2
      obtain ⟨cl, hcl4⟩ : ∃ cl, cl = CB.length + 4 := ⟨_, rfl⟩
      obtain ⟨il, hil4⟩ : ∃ il, il = IX.length + 4 := ⟨_, rfl⟩
      rw [← hcl4] at E1 HDE
      rw [← hil4] at E2 HDE
      have hclb : cl ≤ 900004 := by omega
      have hilb : il ≤ 900004 := by omega
      have HCL4 := Lib.hid hcl4
      have HIL4 := Lib.hid hil4
      clear eG eS eP HLD hcl4 hil4 HDP HSZ HCw
      go_wp2_with fail
      refine E1.out.mono ?_
      rintro e w5 ⟨v5, rfl, ho5, hb5⟩
      obtain ⟨A5, c5, rfl⟩ := own_shape ho5
      have HB5 : Hid (Below w.heap.size w w5) := bel_step hb5 hz HB.out
      have HJ5 := Lib.hid (HJ.out.step hb5)
      have HO5 : Hid (w5.ownsRow w.heap.size 5 1 (.slice A5 cl c5) cl (numL .u8 (putC CB))) := own_mono ho5 hz
      have HE5 : Hid (JE w.heap.size (.slice Ao OU.length co) (.slice Ad DI.length cd) (.slice A5 cl c5) cl (numL .u8 (putC CB)) w5) := JE.new HJ.out hz ho5
      have E2' := Lib.hid (E2.out w5 HB5.out)
      have hz5 := HB5.out.size
      clear ho5 hb5 E1 E2 HJ HB HO5 hz
      go_wp2_with fail
      refine E2'.out.mono ?_
      rintro e w6 ⟨v6, rfl, ho6, hb6⟩
      obtain ⟨A6, c6, rfl⟩ := own_shape ho6
      have HB6 : Hid (Below w.heap.size w w6) := bel_step hb6 hz5 HB5.out
      have HE6 : Hid (JE w.heap.size (.slice Ao OU.length co) (.slice Ad DI.length cd) (.slice A6 il c6) il (numL .u8 (putC IX)) w6) := JE.new HJ5.out hz5 ho6
      have HE56 := Lib.hid (HE5.out.step hb6)
      have HJ6 := Lib.hid (HJ5.out.step hb6)
      have hz6 := HB6.out.size
      have DN1 := Lib.hid (fun wx => rnum64_any wx cl (by omega))
      have DN2 := Lib.hid (fun wx => rnum64_any wx il (by omega))
      have la := numB_len64 (x := cl) (by omega)
      have lb := numB_len64 (x := il) (by omega)
      have u3 : IntKind.u64.wrap (cl : Int) = (cl : Int) := by rw [IntKind.wrap_u64]; omega
      have u4 : IntKind.u64.wrap (il : Int) = (il : Int) := by rw [IntKind.wrap_u64]; omega
      generalize numB cl = N1 at *
      generalize numB il = N2 at *
      clear ho6 hb6 E2' HJ5 HB5 HE5 hz5
      go_wp2_with fail
      refine (DN1.out _).mono ?_
      rintro e w7 ⟨v7, rfl, ho7, hb7⟩
      obtain ⟨A7, c7, rfl⟩ := own_shape ho7
      have HS7 : Hid (Src w7 A7 N1.length c7 1 (numL .u8 N1)) := src_row7 ho7
      have HJ7 := Lib.hid (HJ6.out.step hb7)
      have HE57 := Lib.hid (HE56.out.step hb7)
      have HE67 := Lib.hid (HE6.out.step hb7)
      have HB7 : Hid (Below w.heap.size w w7) := bel_step hb7 hz6 HB6.out
      have hz7 := HB7.out.size
      clear ho7 hb7 DN1 HJ6 HE56 HE6 HB6 hz6
      go_wp2_with (at_builtin; refine wpList_app rfl (.tmp 60) (.tmp 64) 29 rfl w.heap.size 5 j0 _ 1 1 Tryz.underlying29 hj0 hy0 hy1 hy2 rfl (by decide) _ _ _ (by rfl) HJ7.out.od _ _ _ _ (by rfl) HS7.out (numL_one _ _) (by unfold maxLen; omega) (by omega) hz7 ?_; intro v8 w8 hown8 hg8 hat8; have HE58 := Lib.hid (HE57.out.dirA hg8 hat8); have HE68 := Lib.hid (HE67.out.dirA hg8 hat8); have q8 := HJ7.out.dirA hz7 hg8 hown8 hat8; obtain ⟨A8, c8, rfl⟩ := own_shape hown8; have HJ8 := Lib.hid q8.1; have HB8 : Hid (Below w.heap.size w w8) := HB7.out.trans q8.2; have hz8 := HB8.out.size; clear q8 hown8 hg8 hat8; skip)
      have hd8l : (DI ++ N1).length ≤ 400030 := by rw [List.length_append]; omega
      clear HS7 HJ7 HE57 HE67 HB7 hz7
      refine (DN2.out _).mono ?_
      rintro e w9 ⟨v9, rfl, ho9, hb9⟩
      obtain ⟨A9, c9, rfl⟩ := own_shape ho9
      have HS9 : Hid (Src w9 A9 N2.length c9 1 (numL .u8 N2)) := src_row7 ho9
      have HJ9 := Lib.hid (HJ8.out.step hb9)
      have HE59 := Lib.hid (HE58.out.step hb9)
      have HE69 := Lib.hid (HE68.out.step hb9)
      have HB9 : Hid (Below w.heap.size w w9) := bel_step hb9 hz8 HB8.out
      have hz9 := HB9.out.size
      clear ho9 hb9 DN2 HJ8 HE58 HE68 HB8 hz8
      go_wp2_with (at_builtin; refine wpList_app rfl (.tmp 66) (.tmp 70) 29 rfl w.heap.size 5 j0 _ 1 1 Tryz.underlying29 hj0 hy0 hy1 hy2 rfl (by decide) _ _ _ (by rfl) HJ9.out.od _ _ _ _ (by rfl) HS9.out (numL_one _ _) (by unfold maxLen; omega) (by omega) hz9 ?_; intro v10 w10 hown10 hg10 hat10; have HE510 := Lib.hid (HE59.out.dirA hg10 hat10); have HE610 := Lib.hid (HE69.out.dirA hg10 hat10); have q10 := HJ9.out.dirA hz9 hg10 hown10 hat10; obtain ⟨A10, c10, rfl⟩ := own_shape hown10; have HJ10 := Lib.hid q10.1; have HB10 : Hid (Below w.heap.size w w10) := HB9.out.trans q10.2; have hz10 := HB10.out.size; clear q10 hown10 hg10 hat10; skip)
      clear HS9 HJ9 HE59 HE69 HB9 hz9
      have hDD : DD = DI ++ N1 ++ N2 := by rw [HDE.out, List.append_assoc]
      have hdd : DD.length = DI.length + N1.length + N2.length := by rw [hDD, List.length_append, List.length_append]
      have od := HJ10.out.od
      rw [← hDD] at od
      have od2 := od
      rw [hdd] at od2
      simp only [List.length_append] at od2
      have P10 : Part.Ok (⟨A10, c10, DD⟩ : Part) w10 := by
        have h := part_own (A := A10) (c := c10) (ls := DD) (n := DI.length + N1.length + N2.length) od2 hdd
        exact h
      have E11 := Lib.hid (rput_any w10 A10 (DI.length + N1.length + N2.length) c10 DD hdd (by omega) (fun e => by have h := P10.nil e; exact ⟨by rw [← hdd]; exact h.1, h.2⟩) hd8 (by have h := P10.row; simp only [hdd] at h; exact h))
      unfold PutPost at E11
      obtain ⟨dl, hdl4⟩ : ∃ dl, dl = DD.length + 4 := ⟨_, rfl⟩
      rw [← hdl4] at E11
      have hdlb : dl ≤ 400060 := by omega
      have HDL4 := Lib.hid hdl4
      clear hDD hdd od od2 P10 hdl4 HDE
      refine E11.out.mono ?_
      rintro e w11 ⟨v11, rfl, ho11, hb11⟩
      obtain ⟨A11, c11, rfl⟩ := own_shape ho11
      have HE11 : Hid (JE w.heap.size (.slice Ao OU.length co) (.slice A10 ((DI ++ N1).length + N2.length) c10) (.slice A11 dl c11) dl (numL .u8 (putC DD)) w11) := JE.new HJ10.out hz10 ho11
      have HE511 := Lib.hid (HE510.out.step hb11)
      have HE611 := Lib.hid (HE610.out.step hb11)
      have HJ11 := Lib.hid (HJ10.out.step hb11)
      have HB11 : Hid (Below w.heap.size w w11) := bel_step hb11 hz10 HB10.out
      have hz11 := HB11.out.size
      have HS5 : Hid (Src w11 A5 cl c5 1 (numL .u8 (putC CB))) := src_row7 HE511.out.own
      have hl5 : (OU ++ putC CB).length ≤ 1500000 := by rw [List.length_append, putC_len, ← HCL4.out]; omega
      have hl6 : (OU ++ putC CB ++ putC IX).length ≤ 2500000 := by rw [List.length_append, putC_len, ← HIL4.out]; omega
      have hl7 : (OU ++ putC CB ++ putC IX ++ putC DD).length ≤ 3000000 := by rw [List.length_append, putC_len, ← HDL4.out]; omega
      have f5 : (putC CB).length = cl := by rw [putC_len, HCL4.out]
      have f6 : (putC IX).length = il := by rw [putC_len, HIL4.out]
      have f7 : (putC DD).length = dl := by rw [putC_len, HDL4.out]
      have HF5 := Lib.hid f5
      have HF6 := Lib.hid f6
      have HF7 := Lib.hid f7
      generalize putC CB = KC at *
      generalize putC IX = KX at *
      generalize putC DD = KD at *
      clear ho11 hb11 E11 HJ10 HE510 HE610 HB10 hz10 f5 f6 f7
      go_wp2_with (first | (at_builtin; refine wpList_app rfl (.tmp 73) (.tmp 74) 29 rfl w.heap.size 5 j0 _ 1 1 Tryz.underlying29 hj0 hy0 hy1 hy2 rfl (by decide) _ _ _ (by rfl) HJ11.out.oo _ _ _ _ (by rfl) HS5.out (numL_one _ _) (by unfold maxLen; omega) (by omega) hz11 ?_; intro v12 w12 hown12 hg12 hat12; rw [← HF5.out] at hown12; have HE612 := Lib.hid (HE611.out.outA hg12 hat12); have HE1112 := Lib.hid (HE11.out.outA hg12 hat12); have HS6 : Src w12 A6 il c6 1 (numL .u8 KX) := src_row7 HE612.out.own; have q12 := HJ11.out.outA hz11 hg12 hown12 hat12; obtain ⟨A12, c12, rfl⟩ := own_shape hown12; have hj12 := q12.1; (try simp only [List.length_append] at hj12); have HJ12 := Lib.hid hj12; clear hj12; have HB12 : Hid (Below w.heap.size w w12) := HB11.out.trans q12.2; have hz12 := HB12.out.size; clear q12 hown12 hg12 hat12; skip) | (at_builtin; refine wpList_app rfl (.tmp 76) (.tmp 77) 29 rfl w.heap.size 5 j0 _ 1 1 Tryz.underlying29 hj0 hy0 hy1 hy2 rfl (by decide) _ _ _ (by rfl) HJ12.out.oo _ _ _ _ (by rfl) HS6 (numL_one _ _) (by unfold maxLen; omega) (by omega) hz12 ?_; intro v13 w13 hown13 hg13 hat13; rw [← HF6.out] at hown13; have HE1113 := Lib.hid (HE1112.out.outA hg13 hat13); have HS7 : Src w13 A11 dl c11 1 (numL .u8 KD) := src_row7 HE1113.out.own; have q13 := HJ12.out.outA hz12 hg13 hown13 hat13; obtain ⟨A13, c13, rfl⟩ := own_shape hown13; have hj13 := q13.1; (try simp only [List.length_append] at hj13); have HJ13 := Lib.hid hj13; clear hj13; have HB13 : Hid (Below w.heap.size w w13) := HB12.out.trans q13.2; have hz13 := HB13.out.size; clear q13 hown13 hg13 hat13; skip) | (at_builtin; refine wpList_app rfl (.tmp 79) (.tmp 80) 29 rfl w.heap.size 5 j0 _ 1 1 Tryz.underlying29 hj0 hy0 hy1 hy2 rfl (by decide) _ _ _ (by rfl) HJ13.out.oo _ _ _ _ (by rfl) HS7 (numL_one _ _) (by unfold maxLen; omega) (by omega) hz13 ?_; intro v14 w14 hown14 hg14 hat14; rw [← HF7.out] at hown14; have q14 := HJ13.out.outA hz13 hg14 hown14 hat14; obtain ⟨A14, c14, rfl⟩ := own_shape hown14; have hj14 := q14.1; (try simp only [List.length_append] at hj14); have HJ14 := Lib.hid hj14; clear hj14; have HB14 : Hid (Below w.heap.size w w14) := HB13.out.trans q14.2; have hz14 := HB14.out.size; clear q14 hown14 hg14 hat14; skip))
      have HJO : Hid (joinP n G (ps.map Part.ls) CB IX = OU ++ KC ++ KX ++ KD ++ fix4 dl) := by show _ = _; rw [HJP.out, HF7.out]; simp only [List.append_assoc]
      have E15 := Lib.hid (rfixed4_any w14 dl (by omega))
      have u5 : IntKind.u64.wrap (dl : Int) = (dl : Int) := by rw [IntKind.wrap_u64]; omega
      clear HJ11 HJ12 HJ13 HB11 HB12 HB13 HE11 HE511 HE611 HE612 HE1112 HE1113 HS5 HS6 HS7 HJP
      refine E15.out.mono ?_
      rintro e w15 ⟨v15, rfl, ho15, hb15⟩
      obtain ⟨A15, c15, rfl⟩ := own_shape ho15
      have HS15 : Hid (Src w15 A15 4 c15 1 (numL .u8 (fix4 dl))) := src_row7 ho15
      have HJ15 := Lib.hid (HJ14.out.step hb15)
      have HB15 : Hid (Below w.heap.size w w15) := bel_step hb15 hz14 HB14.out
      have hz15 := HB15.out.size
      clear ho15 hb15 E15 HJ14 HB14
      have HO16 : Hid (w15.ownsRow w.heap.size 5 1 (.slice A14 (OU.length + (KC.length + KX.length) + KD.length) c14) (OU ++ KC ++ KX ++ KD).length (numL .u8 (OU ++ KC ++ KX ++ KD))) := by
        have h := HJ15.out.oo
        show World.ownsRow _ _ _ _ _ _ _
        rw [show OU.length + (KC.length + KX.length) + KD.length = OU.length + KC.length + KX.length + KD.length by omega]
        exact h
      clear HJ15
      go_wp2_with (at_builtin; refine wpList_app rfl (.tmp 89) (.tmp 90) 29 rfl w.heap.size 5 j0 _ 1 1 Tryz.underlying29 hj0 hy0 hy1 hy2 rfl (by decide) _ _ _ (by rfl) HO16.out _ _ _ _ (by rfl) HS15.out (numL_one _ _) (by unfold maxLen; omega) (by omega) hz15 ?_; intro v17 w17 hown17 hg17 hat17)
      have HB17 : Hid (Below w.heap.size w w17) := HB15.out.grown hg17 hz15 (fun y hy => (World.ownsRow.lt HO16.out y hy).1)
      go_ret
      refine ⟨v17, rfl, ?_, HB17.out⟩
      rw [HJO.out]
      have e1 : (OU ++ KC ++ KX ++ KD ++ fix4 dl).length = (OU ++ KC ++ KX ++ KD).length + 4 := by rw [List.length_append]; rfl
      have e2 : numL .u8 (OU ++ KC ++ KX ++ KD ++ fix4 dl) = numL .u8 (OU ++ KC ++ KX ++ KD) ++ numL .u8 (fix4 dl) := by simp [numL]
      rw [e1, e2]
      exact hown17
end Go.Proofs.YtcafklmbehoggaaGreatDoor.Body
namespace Go.Proofs.YtcafklmbehoggaaGreatDoor.Idx
open Go.RowKit Go.Proofs.YtcafklmbehoggaaGreatDoor.Mem Go.Proofs.YtcafklmbehoggaaGreatDoor.Own Go.Proofs.YtcafklmbehoggaaGreatDoor.Canon Go.Proofs.YtcafklmbehoggaaGreatDoor.Sift
open Go.Proofs.YtcafklmbehoggaaGreatDoor.NumPut Go.Proofs.YtcafklmbehoggaaGreatDoor.Recs
open Go.Proofs.YtcafklmbehoggaaGreatDoor.Ef (mayI efO)
open Go.Proofs.YtcafklmbehoggaaGreatDoor.Huff (numL_get)
theorem ix_row {w : World} {base : Nat} {vT vL : Value} {vals : List Value} {ts : List Str} {ls : List (List Nat)} (h : IxAt w base vT vL vals ts ls) {k : Nat} {x : List Nat} (hx : ls[k]? = some x) :
    ∃ A c, vals[k]? = some (.slice A x.length c) ∧ Row w w.heap.size A x.length 1 (numF .i64 x) := by
  obtain ⟨hk, _⟩ := List.getElem?_eq_some_iff.1 hx
  have hkv : k < vals.length := by rw [h.len]; exact hk
  have hv : vals[k]? = some vals[k] := List.getElem?_eq_getElem hkv
  have ho := h.r k _ x hv hx
  obtain ⟨A, c, e⟩ := own_shape ho
  rw [e] at hv ho
  exact ⟨A, c, hv, Row.of_own ho rfl (fun i j hi hj => by have e0 : j = 0 := (by omega); subst e0; exact numL_get (by omega))⟩
end Go.Proofs.YtcafklmbehoggaaGreatDoor.Idx
namespace Go.Proofs.YtcafklmbehoggaaGreatDoor.Body
open Go.Proofs.YtcafklmbehoggaaGreatDoor.Recs Go.Proofs.YtcafklmbehoggaaGreatDoor.Idx Go.Proofs.YtcafklmbehoggaaGreatDoor.Opts
open Go.Proofs.YtcafklmbehoggaaGreatDoor.NumPut (numB numB_len64)
open Go.Proofs.YtcafklmbehoggaaGreatDoor.Ef (efO mayI efBits lowsU_len mayI_lt efW)
open Go.Proofs.YtcafklmbehoggaaGreatDoor.Huff (bytesOf_length)
theorem efO_len2 {bound : Nat} {l : List Nat} (hb : bound ≤ 20000) (hm : mayI bound none l = true) (h0 : l ≠ []) (hn : l.length ≤ bound) : (efO bound l).length ≤ 10 + (3 * bound + 7) / 8 := by
  have h1 : 1 ≤ l.length := List.length_pos_iff.2 h0
  have hq : 1 ≤ bound / l.length := (Nat.one_le_div_iff (by omega)).2 hn
  have hW : l.length * efW bound l.length ≤ bound := by
    have h3 := Ef.log2_le (q := bound / l.length) (by omega)
    have h4 : efW bound l.length < 2 ^ efW bound l.length := Nat.lt_two_pow_self
    unfold efW at h4 ⊢
    have h5 : l.length * Nat.log2 (bound / l.length) ≤ l.length * (bound / l.length) := Nat.mul_le_mul_left _ (by omega)
    exact Nat.le_trans h5 (Nat.mul_div_le _ _)
  have hlow := lowsU_len (efW bound l.length) l
  have hlt := mayI_lt bound l none hm
  have hp := (mayI_pair bound l none hm).1
  have hhi := highsU_le (l.map (· / 2 ^ efW bound l.length)) 0 bound (Nat.zero_le _) (fun x hx => by
    obtain ⟨y, hy, rfl⟩ := List.mem_map.1 hx
    exact ⟨Nat.zero_le _, Nat.le_trans (Nat.div_le_self _ _) (by have := hlt y hy; omega)⟩) (List.Pairwise.map _ (fun a b h => Nat.div_le_div_right h) hp)
  rw [List.length_map] at hhi
  have hn2 := numB_len64 (x := l.length) (by omega)
  unfold efO
  rw [if_neg h0, List.length_append, bytesOf_length]
  unfold efBits
  rw [List.length_append, hlow]
  omega
theorem listsO_len2 {bound C : Nat} : ∀ {ls : List (List Nat)}, (∀ x ∈ ls, (efO bound x).length ≤ C) → (listsO bound ls).length ≤ C * ls.length
  | [], _ => by simp [listsO]
  | x :: t, h => by
    have ih := listsO_len2 (ls := t) (fun y hy => h y (List.mem_cons_of_mem _ hy))
    have hx := h x List.mem_cons_self
    unfold listsO at ih ⊢
    rw [List.flatMap_cons, List.length_append, List.length_cons, Nat.mul_add]
    omega
theorem allT_len (ts : List (List Str)) : (allT ts).length ≤ (ts.map List.length).sum := by
  have h : ∀ (ts : List (List Str)) (acc : List Str), (ts.foldl putAll acc).length ≤ acc.length + (ts.map List.length).sum := fun ts => by
    induction ts with
    | nil => intro acc; simp
    | cons t ts ih =>
      intro acc
      have h1 := ih (putAll acc t)
      have h2 := putAll_len t acc
      rw [List.foldl_cons, List.map_cons, List.sum_cons]
      omega
  have := h ts []
  simpa [allT] using this
theorem terms_weight : ∀ l : List Rec, ((((l.map termsR).map List.length).sum : Nat) : Int) ≤ weight l
  | [] => by simp [weight_nil]
  | r :: l => by
    have ih := terms_weight l
    have e : weight (r :: l) = weigh r + weight l := by
      simp only [weight, List.map_cons, List.foldl_cons]
      rw [foldl_add]
      omega
    have h := terms_len r.text.data.toList r.source.data.toList
    have h1 : r.text.data.toList.length = r.text.size := Array.length_toList
    have h2 : r.source.data.toList.length = r.source.size := Array.length_toList
    rw [h1, h2] at h
    rw [List.map_cons, List.map_cons, List.sum_cons, e]
    have h3 : (termsR r).length ≤ r.text.size + r.source.size := h
    unfold weigh
    omega
theorem ix_small {o : Opt} {l : List Rec} {n : Nat} (hn : l.length = n) (h1 : (n : Int) ≤ 30) (h2 : weight l ≤ 1500) : (allT (l.map termsR)).length ≤ 20000 ∧ (optB o = 0 → (ixR o l).length ≤ 99000) := by
  have hT : (allT (l.map termsR)).length ≤ 1500 := by
    have a := allT_len (l.map termsR)
    have b := terms_weight l
    omega
  refine ⟨by omega, fun ho => ?_⟩
  obtain ⟨_, _, hb3, hb4⟩ := optB_ok ho
  have hok := ids_ok l
  have hmay := all_may (l := l) (by omega)
  have hs : ∀ s ∈ allT (l.map termsR), s.length ≤ 25 := fun s hs => (mayD_small hmay s hs).2
  have a := hdB_len hs (size := o.bucket.toNat) (by omega) (by omega) (nCh o.bucket.toNat (allT (l.map termsR)).length)
  have b := bdB_len2 hs (size := o.bucket.toNat) (by omega) (nCh o.bucket.toNat (allT (l.map termsR)).length)
  have c := nCh_le (size := o.bucket.toNat) (n := (allT (l.map termsR)).length) (by omega)
  have d := listsO_len2 (bound := l.length) (C := 22) (ls := (allT (l.map termsR)).map (idsT (l.map termsR))) (fun x hx => by
    have h3 := hok.2 x hx
    have h4 := efO_len2 (bound := l.length) (l := x) (by omega) (List.all_eq_true.1 hok.1 x hx) h3.1 h3.2
    omega)
  rw [List.length_map] at d
  have e : dictO o.bucket.toNat (allT (l.map termsR)) = hdB o.bucket.toNat (allT (l.map termsR)) (nCh o.bucket.toNat (allT (l.map termsR)).length) ++ bdB o.bucket.toNat (allT (l.map termsR)) (nCh o.bucket.toNat (allT (l.map termsR)).length) := dictO_eq (by omega) _
  unfold ixR ixO
  rw [List.length_append, e, List.length_append]
  omega
end Go.Proofs.YtcafklmbehoggaaGreatDoor.Body
