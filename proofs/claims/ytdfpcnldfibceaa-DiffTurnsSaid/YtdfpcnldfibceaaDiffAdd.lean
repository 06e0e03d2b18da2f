/-
  The walk of the closure 'add' of package diff's Diff.
-/
import Derived.Test.YtdfpcnldfibceaaDiffFill
import Derived.Test.YtdfpcnldfibceaaEdits2
import Derived.Deep.DeepCutAuto
namespace Go.Proofs.Ytdfpcnldfibceaa.Diff
open Go.RowKit Go.Proofs.Ytdfpcnldfibceaa.Mem Go.Proofs.Ytdfpcnldfibceaa.Recs

theorem info_edit : (Try.prog.info? 116).map (fun i => (i.zero, i.size, i.bytes)) = some (some (.agg #[.int .i64 0, .int .i64 0, .slice none 0 0]), 3, 40) := by kernel_rfl
theorem info_rec : (Try.prog.info? 91).map (fun i => (i.zero, i.size, i.bytes)) = some (some (.agg #[.int .u64 0, .int .u8 0, .string ByteArray.empty, .string ByteArray.empty]), 4, 48) := by kernel_rfl

/-- Blocks ahead of base, but for one, are as they were. -/
structure Only (base Bo : Nat) (w w' : World) : Prop where
  os : w'.os = w.os
  tape : w'.tape = w.tape
  output : w'.output = w.output
  size : w.heap.size ≤ w'.heap.size
  block : ∀ k, k < base → k ≠ Bo → w'.heap[k]? = w.heap[k]?
theorem Only.refl (base Bo : Nat) (w : World) : Only base Bo w w := ⟨rfl, rfl, rfl, Nat.le_refl _, fun _ _ _ => rfl⟩
theorem Only.alloc {base Bo : Nat} {w w' : World} (h : Only base Bo w w') (hb : base ≤ w.heap.size) (o : Obj) : Only base Bo w (w'.alloc o) :=
  ⟨h.os, h.tape, h.output, Nat.le_trans h.size (by simp), fun k hk hne => (Below.heap_alloc w' o k (by have := h.size; omega)).trans (h.block k hk hne)⟩
theorem Only.setCell {base Bo : Nat} {w w' : World} (h : Only base Bo w w') {p : Addr} (hp : p.block = Bo ∨ base ≤ p.block) (u : Value) : Only base Bo w (w'.setCell p u) :=
  ⟨h.os, h.tape, h.output, by simpa [World.setCell] using h.size, fun k hk hne => (Below.heap_setCell w' p u k (by omega)).trans (h.block k hk hne)⟩
theorem Only.grown {base Bo : Nat} {w w' w2 : World} (h : Only base Bo w w') (hb : base ≤ w.heap.size) {row : Option Nat} (hg : w'.grownBy w2 row) (hr : ∀ k, row = some k → base ≤ k) : Only base Bo w w2 :=
  ⟨hg.os.trans h.os, hg.tape.trans h.tape, hg.output.trans h.output, Nat.le_trans h.size hg.size, fun k hk hne => (hg.block k (by have := h.size; omega) (fun e => by have := hr k e.symm; omega)).trans (h.block k hk hne)⟩

/-- What is handed on: nothing, or records in a block known whole. -/
def SrcB (w : World) (A : Option Addr) (m c : Nat) (l : List Rec) : Prop :=
  l.length = m ∧ ((A = none ∧ m = 0 ∧ c = 0) ∨ ∃ bs cs, A = some ⟨bs, 0, none⟩ ∧ Blk w bs 91 cs ∧ cs.toList = recsCells l)
theorem SrcB.src {w : World} {A : Option Addr} {m c : Nat} {l : List Rec} (h : SrcB w A m c l) : Src w A m c 4 (recsCells l) := by
  obtain ⟨hl, h⟩ := h
  refine ⟨by rw [recsCells_length, hl], ?_⟩
  rcases h with h | ⟨bs, cs, rfl, hb, hc⟩
  · exact .inl h
  · refine .inr ⟨_, rfl, fun j u hu => ?_⟩
    rw [Mem.add_none, Nat.zero_add, hb.cell, ← Array.getElem?_toList, hc]
    exact hu
theorem SrcB.kept {w w' : World} {A : Option Addr} {m c : Nat} {l : List Rec} (h : SrcB w A m c l) (hk : ∀ bs cs, Blk w bs 91 cs → Blk w' bs 91 cs) : SrcB w' A m c l := by
  obtain ⟨hl, h⟩ := h
  refine ⟨hl, ?_⟩
  rcases h with h | ⟨bs, cs, h1, hb, hc⟩
  · exact .inl h
  · exact .inr ⟨bs, cs, h1, hk _ _ hb, hc⟩

/-- What there is behind the first part: the last edit is of this kind; done with the rest, it is what is wanted. -/
def Mid (w : World) (base Bo : Nat) (es : List Ed) (kind : Int) (A : Option Addr) (m c : Nat) (l : List Rec) (wx : World) : Prop :=
  ∃ (g cap k : Nat) (ini : List Ed) (e : Ed) (ri : List Value) (rv : Value), ini.length = k ∧ Blk wx Bo 25 #[.slice (some ⟨g, 0, none⟩) (k + 1) cap] ∧
    EdsAt wx base (.slice (some ⟨g, 0, none⟩) (k + 1) cap) (ini ++ [e]) (ri ++ [rv]) ∧ Only base Bo w wx ∧ addE es kind l = ini ++ [⟨kind, if kind = 3 then e.n else e.n + 1, e.recs ++ l⟩] ∧ e.kind = kind ∧
    k ≤ 200000 ∧ (0 ≤ e.n ∧ e.n ≤ 200000) ∧ e.recs.length ≤ 200000 ∧ SrcB wx A m c l

/-- What the step is to leave. -/
def Added (w : World) (base Bo : Nat) (es : List Ed) (kind : Int) (l : List Rec) (w' : World) : Prop :=
  ∃ v' rvs', Blk w' Bo 25 #[v'] ∧ EdsAt w' base v' (addE es kind l) rvs' ∧ Only base Bo w w'
def AddPost (w : World) (base Bo : Nat) (es : List Ed) (kind : Int) (l : List Rec) (e : Ending) (w' : World) : Prop :=
  e = .returned (.tuple #[]) ∧ Added w base Bo es kind l w'

/-- Bounds that all edits of a row keep. -/
def Small (t : Nat) (es : List Ed) : Prop := es.length ≤ t ∧ ∀ e ∈ es, (0 ≤ e.n ∧ e.n ≤ (t : Int)) ∧ e.recs.length ≤ t

theorem added_fin {w wx w1 : World} {base Bo g cap k : Nat} {es ini : List Ed} {e : Ed} {ri : List Value} {rv rv' : Value} {kind : Int} {l : List Rec} {n1 : Nat}
    (hb1 : Bo < base) (hb2 : base ≤ w.heap.size) (hk : ini.length = k) (hB : Blk wx Bo 25 #[.slice (some ⟨g, 0, none⟩) (k + 1) cap])
    (hE : EdsAt wx base (.slice (some ⟨g, 0, none⟩) (k + 1) cap) (ini ++ [e]) (ri ++ [rv])) (hO : Only base Bo w wx)
    (hadd : addE es kind l = ini ++ [⟨kind, if kind = 3 then e.n else e.n + 1, e.recs ++ l⟩]) (hek : e.kind = kind)
    (hown : w1.ownsRow base 91 4 rv' n1 (recsCells e.recs ++ recsCells l)) (hn1 : n1 = e.recs.length + l.length) (hg : wx.grownBy w1 rv.ownBlock)
    (hap : rv'.ownBlock = rv.ownBlock ∨ rv'.ownBlock = some wx.heap.size) :
    (kind = 3 → Added w base Bo es kind l (w1.setCell ⟨g, k * 3 + 2, none⟩ rv')) ∧
    (kind ≠ 3 → Added w base Bo es kind l ((w1.setCell ⟨g, k * 3 + 2, none⟩ rv').setCell ⟨g, k * 3 + 1, none⟩ (.int .i64 (e.n + 1)))) := by
  subst hk hn1
  have h1 := hE.setRecs hown hg hap
  have hgB : base ≤ g := (hE.lt.1 g rfl).1
  have hBo1 : Blk w1 Bo 25 #[.slice (some ⟨g, 0, none⟩) (ini.length + 1) cap] := hB.grown hg (fun e => own_blk hE.lastRecs hB (by decide) e.symm)
  have hBo2 := hBo1.far (p := ⟨g, ini.length * 3 + 2, none⟩) (show Bo ≠ g by omega) rv'
  have hO1 := (hO.grown hb2 hg (fun k hk => (hE.lt.2 rv (by simp) k hk).1)).setCell (p := ⟨g, ini.length * 3 + 2, none⟩) (.inr hgB) rv'
  refine ⟨fun h3 => ?_, fun h3 => ?_⟩
  · refine ⟨_, ri ++ [rv'], hBo2, ?_, hO1⟩
    rw [hadd, if_pos h3, ← hek]
    exact h1
  · refine ⟨_, ri ++ [rv'], hBo2.far (p := ⟨g, ini.length * 3 + 1, none⟩) (show Bo ≠ g by omega) _, ?_, hO1.setCell (p := ⟨g, ini.length * 3 + 1, none⟩) (.inr hgB) _⟩
    rw [hadd, if_neg h3, ← hek]
    exact h1.setN (n := e.n + 1)

theorem ed_one (kind : Int) : ∀ u ∈ [Value.int .i64 kind, .int .i64 0, .slice none 0 0], u.oneCell' = true := by
  intro u hu
  simp only [List.mem_cons, List.not_mem_nil, or_false] at hu
  rcases hu with rfl | rfl | rfl <;> rfl
theorem own_shape1 {w : World} {base : Nat} {e : TypeId} {s n : Nat} {v : Value} {xs : List Value} (h : w.ownsRow base e s v (n + 1) xs) : ∃ g cap, v = .slice (some ⟨g, 0, none⟩) (n + 1) cap := by
  rcases h.2 with ⟨_, h0⟩ | ⟨g, cap, cur, rfl, _⟩
  · omega
  · exact ⟨g, cap, rfl⟩
/-- The captured variable's block behind an append to the edits. -/
theorem blk_after {w w1 : World} {base Bo : Nat} {v u : Value} {es : List Ed} {rvs : List Value} {o : Obj} (hBo : Blk w Bo 25 #[u]) (hE : EdsAt w base v es rvs) (hg : (w.alloc o).grownBy w1 v.ownBlock) :
    Blk w1 Bo 25 #[u] :=
  (hBo.alloc o).grown hg (fun e => own_blk hE.own hBo (by decide) e.symm)

theorem edCells_last {es : List Ed} {e : Ed} {rvs : List Value} (h : rvs.length = (es ++ [e]).length) : ∃ ri rv, rvs = ri ++ [rv] ∧ ri.length = es.length := by
  rcases List.eq_nil_or_concat rvs with rfl | ⟨ri, rv, hr⟩
  · simp at h
  · rw [List.concat_eq_append] at hr
    exact ⟨ri, rv, hr, by rw [hr] at h; simpa using h⟩

theorem mid_new {w w1 : World} {base Bo : Nat} {v : Value} {es : List Ed} {rvs : List Value} {kind : Int} {A : Option Addr} {m c : Nat} {l : List Rec} {n0 g1 cap1 : Nat}
    (hb2 : base ≤ w.heap.size) (hBo : Blk w Bo 25 #[v]) (hE : EdsAt w base v es rvs) (hsrc : SrcB w A m c l) (hn : es.length = n0) (hn2 : n0 ≤ 200000) (hl : lastIs es kind = false)
    (hown1 : w1.ownsRow base 116 3 (.slice (some ⟨g1, 0, none⟩) (n0 + 1) cap1) (n0 + 1) (edCells es rvs ++ [.int .i64 kind, .int .i64 0, .slice none 0 0]))
    (hg1 : (w.alloc (.cells #[.int .i64 kind, .int .i64 0, .slice none 0 0] 116)).grownBy w1 v.ownBlock) :
    Mid w base Bo es kind A m c l (w1.setCell ⟨Bo, 0, none⟩ (.slice (some ⟨g1, 0, none⟩) (n0 + 1) cap1)) := by
  subst hn
  have q1 := blk_after hBo hE hg1
  refine ⟨g1, cap1, es.length, es, ⟨kind, 0, []⟩, rvs, .slice none 0 0, rfl, q1.set 0 _, ?_, ?_, addE_new es kind l hl, rfl, hn2, by simp, by simp, ?_⟩
  · have h := (hE.alloc (.cells #[.int .i64 kind, .int .i64 0, .slice none 0 0] 116)).push hown1 hg1
    exact h.other q1 (by decide) (by decide) 0 _
  · exact (((Only.refl base Bo w).alloc hb2 _).grown hb2 hg1 (fun k hk => (hE.lt.1 k hk).1)).setCell (.inl rfl) _
  · refine hsrc.kept fun bs cs hb => ((hb.alloc _).grown hg1 (fun e => own_blk hE.own hb (by decide) e.symm)).far ?_ _
    exact Blk.apart hb hBo (by decide)

set_option maxHeartbeats 400000 in
set_option maxRecDepth 100000 in
theorem add_any (w : World) (base Bo : Nat) (v : Value) (es : List Ed) (rvs : List Value) (kind : Int) (A : Option Addr) (m c : Nat) (l : List Rec) (hBo : Blk w Bo 25 #[v]) (hE : EdsAt w base v es rvs)
    (hb1 : Bo < base) (hb2 : base ≤ w.heap.size) (hsrc : SrcB w A m c l) (hm1 : m ≤ 1) (hsm : Small 100000 es) :
    Calls Try.prog 88 #[.int .i64 kind, .slice A m c, .pointer (some ⟨Bo, 0, none⟩)] w (AddPost w base Bo es kind l) := by
  obtain ⟨i0, hi0, hz0, hz1, hz2⟩ := info_parts info_edit
  obtain ⟨j0, hj0, hy0, hy1, hy2⟩ := info_parts info_rec
  have c0 := hBo.cell 0
  have f0 := hBo.frozen 0
  have hlt := hBo.lt
  simp at c0
  rcases List.eq_nil_or_concat es with hes | ⟨ini, e, hes⟩
  · subst hes
    obtain ⟨A0, cap0, rfl⟩ := own_shape hE.own
    simp only [List.length_nil] at *
    go_enter Try.func88, Try.ntmps88
    go_upto_region 2 with (at_builtin; refine wpList_app rfl (.tmp 20) (.tmp 23) 25 rfl base 116 i0 _ 3 40 Try.underlying25 hi0 hz0 hz1 hz2 rfl (by decide) _ _ _ (by rfl) (hE.alloc _).own _ _ _ [.int .i64 kind, .int .i64 0, .slice none 0 0] (by rfl) (Src.of_blk (Blk.made _ _ _) 1 1 3 rfl) (ed_one kind) (by unfold maxLen; simp) (by simp) (by simp; omega) ?_; intro v1 w1 hown1 hg1 hat1; obtain ⟨g1, cap1, rfl⟩ := own_shape1 hown1; have q1 := blk_after hBo hE hg1; have q2 := q1.cell 0; have q3 := q1.frozen 0; simp at q2)
    have mid : Mid w base Bo [] kind A m c l (w1.setCell ⟨Bo, 0, none⟩ (.slice (some ⟨g1, 0, none⟩) 1 cap1)) := mid_new hb2 hBo hE hsrc rfl (by simp) rfl hown1 hg1
    generalize w1.setCell ⟨Bo, 0, none⟩ (.slice (some ⟨g1, 0, none⟩) 1 cap1) = wx at mid ⊢
    clear hown1 hg1 hat1 q1 q2 q3
    obtain ⟨gg, cp, k, in2, e2, ri2, rv2, hk2, mB, mE, mO, madd, mek, mk, mn, mr, msrc⟩ := mid
    obtain ⟨A2, cp2, rfl⟩ := own_shape mE.lastRecs
    obtain ⟨q, hq⟩ : ∃ q, q = e2.recs.length := ⟨_, rfl⟩
    obtain ⟨en, hen⟩ : ∃ en, en = e2.n := ⟨_, rfl⟩
    have mown := mE.lastRecs
    unfold OwnsRecs at mown
    have l2 := mO.size
    have m0 := mB.cell 0
    simp at m0
    have m1 := mE
    rw [← hk2] at m1
    have m2 := m1.lastCells.2.1
    have m3 := m1.lastCells.2.2
    have m4 := m1.lastFree (by simp)
    rw [hk2] at m2 m3
    rw [← hen] at m2 mn
    rw [← hq] at m3 mown mr
    have mlt := (mE.lt.1 gg rfl).2
    have mne : some gg ≠ Value.ownBlock (.slice A2 q cp2) := by
      intro h
      rcases own_apart mown mE.own (by decide) with h0 | h0
      · rw [h0] at h; cases h
      · exact h0 h.symm
    have HK := Lib.hid hk2
    have HQ := Lib.hid hq
    have HEN := Lib.hid hen
    have HADD := Lib.hid madd
    have HME := Lib.hid mek
    clear hk2 hq hen madd mek m1
    have f4 := m4 0
    have x1 : (0 : Int) ≤ (k : Int) := by omega
    by_cases hk3 : kind = 3
    · have hk3b : (kind != 3) = false := by simp [hk3]
      have HK3 := Lib.hid hk3
      clear hk3
      go_wp2_with (at_builtin; refine wpList_app rfl (.tmp 34) (.tmp 35) 22 rfl base 91 j0 _ 4 48 Try.underlying22 hj0 hy0 hy1 hy2 rfl (by decide) _ _ _ (by rfl) mown _ _ _ (recsCells l) (by rfl) msrc.src (recsCells_one l) (by unfold maxLen; omega) (by omega) (by omega) ?_; intro v3 w3 hown3 hg3 hat3; obtain ⟨A3, c3, rfl⟩ := own_shape hown3; have gb := hg3.block gg mlt mne; have p2 := (World.cell?_of_block (a := ⟨gg, k * 3 + 1, none⟩) gb).trans m2; have p3 := (World.cell?_of_block (a := ⟨gg, k * 3 + 2, none⟩) gb).trans m3; have p4 : ∀ j, w3.frozen? ⟨gg, j, none⟩ = false := fun j => (World.frozen?_of_block (a := ⟨gg, j, none⟩) gb).trans (m4 j))
      refine bodyPost_end (results_none rfl _ _ _) rfl ⟨rfl, ?_⟩
      have hq := HQ.out
      subst hq
      exact (added_fin hb1 hb2 HK.out mB mE mO HADD.out HME.out hown3 (by rw [msrc.1]) hg3 hat3).1 HK3.out
    · have hk3b : (kind != 3) = true := by simp [hk3]
      have HK3 := Lib.hid hk3
      clear hk3
      go_wp2_with (at_builtin; refine wpList_app rfl (.tmp 34) (.tmp 35) 22 rfl base 91 j0 _ 4 48 Try.underlying22 hj0 hy0 hy1 hy2 rfl (by decide) _ _ _ (by rfl) mown _ _ _ (recsCells l) (by rfl) msrc.src (recsCells_one l) (by unfold maxLen; omega) (by omega) (by omega) ?_; intro v3 w3 hown3 hg3 hat3; obtain ⟨A3, c3, rfl⟩ := own_shape hown3; have gb := hg3.block gg mlt mne; have p2 := (World.cell?_of_block (a := ⟨gg, k * 3 + 1, none⟩) gb).trans m2; have p3 := (World.cell?_of_block (a := ⟨gg, k * 3 + 2, none⟩) gb).trans m3; have p4 : ∀ j, w3.frozen? ⟨gg, j, none⟩ = false := fun j => (World.frozen?_of_block (a := ⟨gg, j, none⟩) gb).trans (m4 j))
      refine bodyPost_end (results_none rfl _ _ _) rfl ⟨rfl, ?_⟩
      have he := HEN.out
      subst he
      have hq := HQ.out
      subst hq
      exact (added_fin hb1 hb2 HK.out mB mE mO HADD.out HME.out hown3 (by rw [msrc.1]) hg3 hat3).2 HK3.out
  · rw [List.concat_eq_append] at hes
    subst hes
    have hln : (ini ++ [e]).length = ini.length + 1 := by simp
    have hown := hE.own
    rw [hln] at hown
    obtain ⟨g, cap, rfl⟩ := own_shape1 hown
    have hsb := hsm.1
    have hcells := edCells_last (es := ini) (e := e) hE.len
    obtain ⟨ri, rv, hrv, hri⟩ := hcells
    subst hrv
    have k0 := hE.lastCells.1
    generalize hek : e.kind = ek at k0
    have i1 : (0 : Int) ≤ (ini.length : Int) := by omega
    have HEK := Lib.hid hek
    clear hek
    rw [hln] at hsb
    by_cases hk : ek = kind
    · have hk' := hk.symm
      subst hk'
      have mid : Mid w base Bo (ini ++ [e]) kind A m c l w := by
        have hb := hsm.2 e (by simp)
        exact ⟨g, cap, ini.length, ini, e, ri, rv, rfl, hBo, hE, Only.refl _ _ _, addE_same ini e kind l HEK.out, HEK.out, by omega, ⟨hb.1.1, by omega⟩, by omega, hsrc⟩
      have MID := Lib.hid mid
      clear mid
      generalize hw : ini.length = n at *
      clear hw
      go_enter Try.func88, Try.ntmps88
      go_upto_region 2 with fail
      have mid := MID.out
      clear c0 k0 hown hE hBo
      obtain ⟨gg, cp, k, in2, e2, ri2, rv2, hk2, mB, mE, mO, madd, mek, mk, mn, mr, msrc⟩ := mid
      obtain ⟨A2, cp2, rfl⟩ := own_shape mE.lastRecs
      obtain ⟨q, hq⟩ : ∃ q, q = e2.recs.length := ⟨_, rfl⟩
      obtain ⟨en, hen⟩ : ∃ en, en = e2.n := ⟨_, rfl⟩
      have mown := mE.lastRecs
      unfold OwnsRecs at mown
      have l2 := mO.size
      have m0 := mB.cell 0
      simp at m0
      have m1 := mE
      rw [← hk2] at m1
      have m2 := m1.lastCells.2.1
      have m3 := m1.lastCells.2.2
      have m4 := m1.lastFree (by simp)
      rw [hk2] at m2 m3
      rw [← hen] at m2 mn
      rw [← hq] at m3 mown mr
      have mlt := (mE.lt.1 gg rfl).2
      have mne : some gg ≠ Value.ownBlock (.slice A2 q cp2) := by
        intro h
        rcases own_apart mown mE.own (by decide) with h0 | h0
        · rw [h0] at h; cases h
        · exact h0 h.symm
      have HK := Lib.hid hk2
      have HQ := Lib.hid hq
      have HEN := Lib.hid hen
      have HADD := Lib.hid madd
      have HME := Lib.hid mek
      clear hk2 hq hen madd mek m1
      have f4 := m4 0
      have x1 : (0 : Int) ≤ (k : Int) := by omega
      by_cases hk3 : kind = 3
      · have hk3b : (kind != 3) = false := by simp [hk3]
        have HK3 := Lib.hid hk3
        clear hk3
        go_wp2_with (at_builtin; refine wpList_app rfl (.tmp 34) (.tmp 35) 22 rfl base 91 j0 _ 4 48 Try.underlying22 hj0 hy0 hy1 hy2 rfl (by decide) _ _ _ (by rfl) mown _ _ _ (recsCells l) (by rfl) msrc.src (recsCells_one l) (by unfold maxLen; omega) (by omega) (by omega) ?_; intro v3 w3 hown3 hg3 hat3; obtain ⟨A3, c3, rfl⟩ := own_shape hown3; have gb := hg3.block gg mlt mne; have p2 := (World.cell?_of_block (a := ⟨gg, k * 3 + 1, none⟩) gb).trans m2; have p3 := (World.cell?_of_block (a := ⟨gg, k * 3 + 2, none⟩) gb).trans m3; have p4 : ∀ j, w3.frozen? ⟨gg, j, none⟩ = false := fun j => (World.frozen?_of_block (a := ⟨gg, j, none⟩) gb).trans (m4 j))
        refine bodyPost_end (results_none rfl _ _ _) rfl ⟨rfl, ?_⟩
        have hq := HQ.out
        subst hq
        exact (added_fin hb1 hb2 HK.out mB mE mO HADD.out HME.out hown3 (by rw [msrc.1]) hg3 hat3).1 HK3.out
      · have hk3b : (kind != 3) = true := by simp [hk3]
        have HK3 := Lib.hid hk3
        clear hk3
        go_wp2_with (at_builtin; refine wpList_app rfl (.tmp 34) (.tmp 35) 22 rfl base 91 j0 _ 4 48 Try.underlying22 hj0 hy0 hy1 hy2 rfl (by decide) _ _ _ (by rfl) mown _ _ _ (recsCells l) (by rfl) msrc.src (recsCells_one l) (by unfold maxLen; omega) (by omega) (by omega) ?_; intro v3 w3 hown3 hg3 hat3; obtain ⟨A3, c3, rfl⟩ := own_shape hown3; have gb := hg3.block gg mlt mne; have p2 := (World.cell?_of_block (a := ⟨gg, k * 3 + 1, none⟩) gb).trans m2; have p3 := (World.cell?_of_block (a := ⟨gg, k * 3 + 2, none⟩) gb).trans m3; have p4 : ∀ j, w3.frozen? ⟨gg, j, none⟩ = false := fun j => (World.frozen?_of_block (a := ⟨gg, j, none⟩) gb).trans (m4 j))
        refine bodyPost_end (results_none rfl _ _ _) rfl ⟨rfl, ?_⟩
        have he := HEN.out
        subst he
        have hq := HQ.out
        subst hq
        exact (added_fin hb1 hb2 HK.out mB mE mO HADD.out HME.out hown3 (by rw [msrc.1]) hg3 hat3).2 HK3.out
    · have hkb : (ek == kind) = false := by simpa using hk
      have hkc : (ek != kind) = true := by simp [hk]
      have hlast : lastIs (ini ++ [e]) kind = false := by rw [lastIs_snoc, HEK.out]; simpa using hk
      go_enter Try.func88, Try.ntmps88
      go_upto_region 2 with (at_builtin; refine wpList_app rfl (.tmp 20) (.tmp 23) 25 rfl base 116 i0 _ 3 40 Try.underlying25 hi0 hz0 hz1 hz2 rfl (by decide) _ _ _ (by rfl) (hE.alloc _).own _ _ _ [.int .i64 kind, .int .i64 0, .slice none 0 0] (by rfl) (Src.of_blk (Blk.made _ _ _) 1 1 3 rfl) (ed_one kind) (by unfold maxLen; simp; omega) (by simp; omega) (by simp; omega) ?_; intro v1 w1 hown1 hg1 hat1; obtain ⟨g1, cap1, rfl⟩ := own_shape1 hown1; have q1 := blk_after hBo hE hg1; have q2 := q1.cell 0; have q3 := q1.frozen 0; simp at q2)
      rw [hln] at hown1
      have mid := mid_new hb2 hBo hE hsrc hln (by omega) hlast hown1 hg1
      generalize w1.setCell ⟨Bo, 0, none⟩ (.slice (some ⟨g1, 0, none⟩) (ini.length + 1 + 1) cap1) = wx at mid ⊢
      clear hown1 hg1 hat1 q1 q2 q3
      obtain ⟨gg, cp, k, in2, e2, ri2, rv2, hk2, mB, mE, mO, madd, mek, mk, mn, mr, msrc⟩ := mid
      obtain ⟨A2, cp2, rfl⟩ := own_shape mE.lastRecs
      obtain ⟨q, hq⟩ : ∃ q, q = e2.recs.length := ⟨_, rfl⟩
      obtain ⟨en, hen⟩ : ∃ en, en = e2.n := ⟨_, rfl⟩
      have mown := mE.lastRecs
      unfold OwnsRecs at mown
      have l2 := mO.size
      have m0 := mB.cell 0
      simp at m0
      have m1 := mE
      rw [← hk2] at m1
      have m2 := m1.lastCells.2.1
      have m3 := m1.lastCells.2.2
      have m4 := m1.lastFree (by simp)
      rw [hk2] at m2 m3
      rw [← hen] at m2 mn
      rw [← hq] at m3 mown mr
      have mlt := (mE.lt.1 gg rfl).2
      have mne : some gg ≠ Value.ownBlock (.slice A2 q cp2) := by
        intro h
        rcases own_apart mown mE.own (by decide) with h0 | h0
        · rw [h0] at h; cases h
        · exact h0 h.symm
      have HK := Lib.hid hk2
      have HQ := Lib.hid hq
      have HEN := Lib.hid hen
      have HADD := Lib.hid madd
      have HME := Lib.hid mek
      clear hk2 hq hen madd mek m1
      have f4 := m4 0
      have x1 : (0 : Int) ≤ (k : Int) := by omega
      by_cases hk3 : kind = 3
      · have hk3b : (kind != 3) = false := by simp [hk3]
        have HK3 := Lib.hid hk3
        clear hk3
        go_wp2_with (at_builtin; refine wpList_app rfl (.tmp 34) (.tmp 35) 22 rfl base 91 j0 _ 4 48 Try.underlying22 hj0 hy0 hy1 hy2 rfl (by decide) _ _ _ (by rfl) mown _ _ _ (recsCells l) (by rfl) msrc.src (recsCells_one l) (by unfold maxLen; omega) (by omega) (by omega) ?_; intro v3 w3 hown3 hg3 hat3; obtain ⟨A3, c3, rfl⟩ := own_shape hown3; have gb := hg3.block gg mlt mne; have p2 := (World.cell?_of_block (a := ⟨gg, k * 3 + 1, none⟩) gb).trans m2; have p3 := (World.cell?_of_block (a := ⟨gg, k * 3 + 2, none⟩) gb).trans m3; have p4 : ∀ j, w3.frozen? ⟨gg, j, none⟩ = false := fun j => (World.frozen?_of_block (a := ⟨gg, j, none⟩) gb).trans (m4 j))
        refine bodyPost_end (results_none rfl _ _ _) rfl ⟨rfl, ?_⟩
        have hq := HQ.out
        subst hq
        exact (added_fin hb1 hb2 HK.out mB mE mO HADD.out HME.out hown3 (by rw [msrc.1]) hg3 hat3).1 HK3.out
      · have hk3b : (kind != 3) = true := by simp [hk3]
        have HK3 := Lib.hid hk3
        clear hk3
        go_wp2_with (at_builtin; refine wpList_app rfl (.tmp 34) (.tmp 35) 22 rfl base 91 j0 _ 4 48 Try.underlying22 hj0 hy0 hy1 hy2 rfl (by decide) _ _ _ (by rfl) mown _ _ _ (recsCells l) (by rfl) msrc.src (recsCells_one l) (by unfold maxLen; omega) (by omega) (by omega) ?_; intro v3 w3 hown3 hg3 hat3; obtain ⟨A3, c3, rfl⟩ := own_shape hown3; have gb := hg3.block gg mlt mne; have p2 := (World.cell?_of_block (a := ⟨gg, k * 3 + 1, none⟩) gb).trans m2; have p3 := (World.cell?_of_block (a := ⟨gg, k * 3 + 2, none⟩) gb).trans m3; have p4 : ∀ j, w3.frozen? ⟨gg, j, none⟩ = false := fun j => (World.frozen?_of_block (a := ⟨gg, j, none⟩) gb).trans (m4 j))
        refine bodyPost_end (results_none rfl _ _ _) rfl ⟨rfl, ?_⟩
        have he := HEN.out
        subst he
        have hq := HQ.out
        subst hq
        exact (added_fin hb1 hb2 HK.out mB mE mO HADD.out HME.out hown3 (by rw [msrc.1]) hg3 hat3).2 HK3.out
end Go.Proofs.Ytdfpcnldfibceaa.Diff
