/-
  The walks of the library's Clone of records, of package diff's Back$1 and Back.
-/
import Derived.Test.YtdfpcnldfibceaaDiffApply
import Derived.WalkSpells
namespace Go.Proofs.Ytdfpcnldfibceaa.Diff
open Go.RowKit Go.Proofs.Ytdfpcnldfibceaa.Mem Go.Proofs.Ytdfpcnldfibceaa.Recs

set_option maxRecDepth 100000 in
theorem clone_any (w : World) (B : Nat) (A : Option Addr) (n c : Nat) (l : List Rec) (hn : n ≤ 100000) (ha : Lie w B A n c l) :
    Calls Try.prog 107 #[.slice A n c] w fun e w' => ∃ v, e = .returned v ∧ OwnsRecs w' w.heap.size v l ∧ Below w.heap.size w w' := by
  obtain ⟨j0, hj0, hy0, hy1, hy2⟩ := info_parts info_rec
  have hlen := ha.len
  have hwf := ha.wf
  have heq := fun (w : World) (a : Option Addr) (n c : Nat) => Lib.run_eql_slice_nil (P := Try.prog) w 22 91 a n c 0 0 Try.underlying22
  cases A with
  | none =>
    obtain ⟨rfl, rfl⟩ := hwf.1 rfl
    have hl : l = [] := List.eq_nil_of_length_eq_zero hlen
    subst hl
    clear hlen
    go_enter Try.func107, Try.ntmps107
    go_wp2_with fail
    go_ret
    exact ⟨_, rfl, World.ownsRow_nil _ _ _ _, Below.refl _ _⟩
  | some ad =>
    have HL := Lib.hid hlen
    clear hlen
    have hown : (w.alloc (.cells #[] 91)).ownsRow w.heap.size 91 4 (.slice (some ⟨w.heap.size, 0, none⟩) 0 0) 0 [] := World.ownsRow_made w #[] 0 (Nat.le_refl _) (by unfold maxLen; omega) rfl
    have hsrc : Src (w.alloc (.cells #[] 91)) (some ad) n c 4 (recsCells l) := by
      refine ⟨ha.src.1, .inr ⟨ad, rfl, fun j u hu => ?_⟩⟩
      rcases ha.src.2 with ⟨h, _⟩ | ⟨ad', h1, h2⟩
      · cases h
      · injection h1 with h1
        subst h1
        have hc := h2 j u hu
        exact (World.cell?_of_block (Below.heap_alloc w _ _ (World.block_lt_of_cell? _ _ hc))).trans hc
    go_enter Try.func107, Try.ntmps107
    go_wp2_with (at_builtin; refine wpList_app rfl (.tmp 5) (.tmp 6) 22 rfl w.heap.size 91 j0 _ 4 48 Try.underlying22 hj0 hy0 hy1 hy2 rfl (by decide) _ _ _ (by rfl) hown _ n _ (recsCells l) (by rfl) hsrc (recsCells_one _) (by unfold maxLen; omega) (by omega) (by simp) ?_; intro v3 w3 hown3 hg3 hat3; obtain ⟨A3, c3, rfl⟩ := own_shape hown3)
    go_ret
    refine ⟨_, rfl, ?_, ?_⟩
    · unfold OwnsRecs
      rw [HL.out]
      simpa using hown3
    · exact (bel_alloc0 (o := .cells #[] 91) (Below.refl _ _)).grown hg3 (by simp) (fun k hk => by simp [Value.ownBlock] at hk; omega)

theorem backL_snoc : ∀ {es : List Ed} {a o r o' : List Rec} (e : Ed), runE es (a, o) = some (r, o') → backL a (es ++ [e]) = backL a es ++ [backE r e]
  | [], a, o, r, o', e, h => by
    simp only [runE, Option.some.injEq, Prod.mk.injEq] at h
    rw [h.1]; rfl
  | x :: es, a, o, r, o', e, h => by
    simp only [runE] at h
    cases hs : stepE (a, o) x with
    | none => rw [hs] at h; cases h
    | some s =>
      rw [hs] at h
      obtain ⟨a1, o1⟩ := s
      have ha : a.drop x.n.toNat = a1 := by
        unfold stepE at hs
        split at hs
        · cases hs
        · simp only [Option.some.injEq, Prod.mk.injEq] at hs
          exact hs.1
      simp only [List.cons_append, backL, ha]
      rw [backL_snoc (es := es) e h]
theorem backL_length : ∀ (es : List Ed) (a : List Rec), (backL a es).length = es.length
  | [], _ => rfl
  | e :: es, a => by simp [backL, backL_length es]

/-- What a slice of edits that is made has for its records' slices. -/
def RecOf (w : World) (base : Nat) (rv : Value) (l : List Rec) : Prop := ∃ R c, rv = .slice R l.length c ∧ Wf R l.length c ∧ (l = [] ∨ OwnsRecs w base rv l)
theorem RecOf.kept {w w' : World} {base : Nat} {rv : Value} {l : List Rec} (h : RecOf w base rv l) (hk : ∀ g cs, Blk w g 91 cs → w'.heap[g]? = w.heap[g]?) : RecOf w' base rv l := by
  obtain ⟨R, c, e, hw, ho⟩ := h
  refine ⟨R, c, e, hw, ho.imp id fun ho => own_kept ho fun g hg => ?_⟩
  rcases ho.2 with ⟨hv, _⟩ | ⟨g', cap, cur, hv, _, hb, _⟩
  · rw [hv] at hg; simp [Value.ownBlock] at hg
  · rw [hv] at hg
    simp [Value.ownBlock] at hg
    subst hg
    exact hk _ cur hb
theorem RecOf.row {w : World} {base : Nat} {rv : Value} {l : List Rec} (h : RecOf w base rv l) : ∃ R c, rv = .slice R l.length c ∧ Row w w.heap.size R l.length 4 (recF l) ∧ Wf R l.length c := by
  obtain ⟨R, c, e, hw, ho⟩ := h
  rcases ho with rfl | ho
  · exact ⟨R, c, e, Row.zero, hw⟩
  · exact OwnsRecs.row ho

structure PB (B Bo : Nat) (w0 : World) (a : List Rec) (done : List Ed) (wr : World) (v : Value) (rvs : List Value) : Prop where
  blk : Blk wr Bo 25 #[v]
  len : rvs.length = (backL a done).length
  own : wr.ownsRow (Bo + 1) 116 3 v (backL a done).length (edCells (backL a done) rvs)
  recs : ∀ (i : Nat) (e : Ed) (rv : Value), (backL a done)[i]? = some e → rvs[i]? = some rv → RecOf wr (Bo + 1) rv e.recs
  bel : Below B w0 wr
def PBp (B Bo : Nat) (w0 : World) (a : List Rec) (done : List Ed) (wr : World) : Prop := ∃ v rvs, PB B Bo w0 a done wr v rvs
theorem PB.stab {B Bo : Nat} {w0 wr w' : World} {a : List Rec} {done : List Ed} {v : Value} {rvs : List Value} (h : PB B Bo w0 a done wr v rvs) (hB : B ≤ w0.heap.size) (hb : Below wr.heap.size wr w') : PB B Bo w0 a done w' v rvs :=
  ⟨h.blk.step hb, h.len, own_kept h.own (fun g hg => hb.block g (World.ownsRow.lt h.own g hg).2), fun i e rv he hv => (h.recs i e rv he hv).kept (fun g _ hg => hb.block g hg.lt), bel_step hb (Nat.le_trans hB h.bel.size) h.bel⟩

theorem back_fin {B Bo : Nat} {w0 wr w1 w2 w3 : World} {a : List Rec} {done : List Ed} {e be : Ed} {v v3 rv : Value} {rvs : List Value} {rest o : List Rec} {n3 : Nat} (hB : B ≤ w0.heap.size) (hBo : B ≤ Bo) (hp : PB B Bo w0 a done wr v rvs) (hb : Below wr.heap.size wr w1)
    (hb2 : Below w1.heap.size w1 w2) (hrv : RecOf w2 (Bo + 1) rv be.recs) (hrun : runE done (a, []) = some (rest, o)) (hbe : backE rest e = be)
    (hown : w3.ownsRow (Bo + 1) 116 3 v3 n3 (edCells (backL a done) rvs ++ [.int .i64 be.kind, .int .i64 be.n, rv])) (hn3 : n3 = (backL a done).length + 1) (hg : w2.grownBy w3 v.ownBlock) :
    PBp B Bo w0 a (done ++ [e]) (w3.setCell ⟨Bo, 0, none⟩ v3) ∧ w1.heap.size ≤ (w3.setCell ⟨Bo, 0, none⟩ v3).heap.size ∧ ∀ g, wr.heap.size ≤ g → g < w1.heap.size → (w3.setCell ⟨Bo, 0, none⟩ v3).heap[g]? = w1.heap[g]? := by
  subst hn3
  have hb12 : Below wr.heap.size wr w2 := bel_step hb2 hb.size hb
  have hp2 := hp.stab hB hb12
  have hlo : ∀ k, v.ownBlock = some k → Bo + 1 ≤ k ∧ k < wr.heap.size := fun k hk => World.ownsRow.lt hp.own k hk
  have hl := hp.blk.lt
  have hz := hb.size
  have hz2 := hb2.size
  have hz3 := hg.size
  have hsn := backL_snoc e hrun
  rw [hbe] at hsn
  have hblk : Blk w3 Bo 25 #[v] := hp2.blk.grown hg (fun e => by have := (hlo Bo e.symm).1; omega)
  have hrec : ∀ g cs, Blk w2 g 91 cs → (w3.setCell ⟨Bo, 0, none⟩ v3).heap[g]? = w2.heap[g]? := by
    intro g cs hgb
    have h1 : some g ≠ v.ownBlock := fun h => own_blk hp2.own hgb (by decide) h.symm
    have h2 : g ≠ Bo := Blk.apart hgb hp2.blk (by decide)
    exact (Below.heap_setCell w3 ⟨Bo, 0, none⟩ v3 g h2).trans (hg.block g hgb.lt h1)
  refine ⟨⟨v3, rvs ++ [rv], hblk.set 0 _, ?_, ?_, ?_, ?_⟩, ?_, ?_⟩
  · rw [hsn]; simp [hp.len]
  · rw [hsn, edCells_append _ _ _ _ hp.len, List.length_append]
    exact own_kept hown (fun g hg' => Below.heap_setCell w3 _ _ g (fun e => by have := (World.ownsRow.lt hown g hg').1; rw [e] at this; simp at this; omega))
  · intro i x y hx hy
    rw [hsn] at hx
    rcases get_last _ _ _ _ hx with ⟨hi, hx2⟩ | ⟨hi, rfl⟩
    · rcases get_last _ _ _ _ hy with ⟨hj, hy2⟩ | ⟨hj, rfl⟩
      · exact (hp2.recs i x y hx2 hy2).kept hrec
      · have := hp.len; omega
    · rcases get_last _ _ _ _ hy with ⟨hj, hy2⟩ | ⟨hj, rfl⟩
      · have := hp.len; omega
      · exact hrv.kept hrec
  · exact bel_set (p := ⟨Bo, 0, none⟩) hBo (hp2.bel.grown hg (Nat.le_trans hB hp2.bel.size) (fun k hk => by have := (hlo k hk).1; omega))
  · simp only [World.setCell, Array.size_modify]; omega
  · intro g h1 h2
    exact (Below.heap_setCell w3 ⟨Bo, 0, none⟩ v3 g (show g ≠ Bo by omega)).trans ((hg.block g (by omega) (fun e => by have := (hlo g e.symm).2; omega)).trans (hb2.block g h2))

theorem call_back1 (args : Array Value) (w : World) : (callFunc 106 args).run Try.prog w = .ok (.enter 106 args) w := by
  simp [callFunc, go_sem, Try.func106]
  rfl
theorem ed_any (kind n : Int) (rv : Value) (h : rv.oneCell' = true) : ∀ u ∈ [Value.int .i64 kind, .int .i64 n, rv], u.oneCell' = true := by
  intro u hu
  simp only [List.mem_cons, List.not_mem_nil, or_false] at hu
  rcases hu with rfl | rfl | rfl
  · rfl
  · rfl
  · exact h

set_option maxHeartbeats 400000 in
set_option maxRecDepth 100000 in
theorem back1_ok {B Bo : Nat} {w0 : World} {a : List Rec} {es : List Ed} (hB : B ≤ w0.heap.size) (hBo : B ≤ Bo) (ha : a.length ≤ 1000) (hes : es.length ≤ 1000) (her : ∀ e ∈ es, e.recs.length ≤ 1000) :
    StepOk 106 Bo B (PBp B Bo w0 a) a es := by
  intro done e rest o wr w1 R c PA' pc N hpre hme hrun hn hN hp hb hR hPA
  obtain ⟨v, rvs, hp⟩ := hp
  obtain ⟨i0, hi0, hz0, hz1, hz2⟩ := info_parts info_edit
  have hel := her e (hpre.subset (by simp))
  have hp1 := hp.stab hB hb
  have hzr := hp.bel.size
  have hz := hb.size
  have hdl : (backL a done).length ≤ 1000 := by
    have h3 := hpre.length_le
    rw [backL_length]
    simp only [List.length_append, List.length_cons, List.length_nil] at h3
    omega
  have hra := run_rest hrun
  obtain ⟨va, vc, rfl⟩ := own_shape hp.own
  have c0 := hp1.blk.cell 0
  have f0 := hp1.blk.frozen 0
  have hlt := hp1.blk.lt
  simp at c0
  have HOWN := hp1.own
  have mne : some Bo ≠ Value.ownBlock (.slice va (backL a done).length vc) := fun h => by have := (World.ownsRow.lt HOWN Bo h.symm).1; omega
  have HP := Lib.hid hp
  have HRUN := Lib.hid hrun
  have hRwf := hR.wf
  obtain ⟨oq, hoq⟩ : ∃ oq, oq = (backL a done).length := ⟨_, rfl⟩
  rw [← hoq] at c0 HOWN hdl mne
  have HOQ := Lib.hid hoq
  obtain ⟨q, hq⟩ : ∃ q, q = e.recs.length := ⟨_, rfl⟩
  have HQ := Lib.hid hq
  have hBo1 : Bo + 1 ≤ w1.heap.size := hlt
  rcases mayE_cases hme with ⟨hk, h1, hr⟩ | ⟨hk, h1, hr⟩ | ⟨hk, h1, hr⟩
  · have hbe : backE rest e = ⟨1, N, []⟩ := by
      unfold backE
      rw [if_neg (by omega), if_neg (by omega)]
      obtain ⟨k', n', r'⟩ := e
      simp only at hk hn hr
      rw [hk, hn, hr]
    have hq0 : q = 0 := by rw [hq, hr]; rfl
    rw [hk, hn, ← hq]
    rw [← hq] at hRwf
    subst hq0
    have HBE := Lib.hid hbe
    clear hbe hk hr hn hme hoq hq hrun hp
    go_enter Try.func106, Try.ntmps106
    go_wp2_with (at_builtin; refine wpList_app rfl (.tmp 18) (.tmp 20) 25 rfl (Bo + 1) 116 i0 _ 3 40 Try.underlying25 hi0 hz0 hz1 hz2 rfl (by decide) _ _ _ (by rfl) ((HOWN.alloc _).alloc _) _ 1 1 [.int .i64 1, .int .i64 N, (.slice R 0 c)] (by rfl) (Src.of_blk (g := w1.heap.size + 1) (Blk.made_at _ _ _ (by simp)) 1 1 3 rfl) (ed_any _ _ _ rfl) (by unfold maxLen; omega) (by omega) (by simp; omega) ?_; intro v3 w3 hown3 hg3 hat3; obtain ⟨A3, c3, rfl⟩ := own_shape hown3; have gb := hg3.block Bo (by simp; omega) mne; have gb2 := gb.trans ((Below.heap_alloc _ _ Bo (by simp; omega)).trans (Below.heap_alloc w1 _ Bo hlt)); have p3 := (World.cell?_of_block (a := ⟨Bo, 0, none⟩) gb2).trans c0; have p4 := (World.frozen?_of_block (a := ⟨Bo, 0, none⟩) gb2).trans f0)
    refine bodyPost_end (results_none rfl _ _ _) rfl ?_
    have hoq := HOQ.out
    subst hoq
    exact ⟨rfl, back_fin (be := ⟨1, N, []⟩) hB hBo HP.out hb (bel_alloc0 (bel_alloc0 (Below.refl _ _))) ⟨R, c, rfl, hRwf, .inl rfl⟩ HRUN.out HBE.out hown3 rfl hg3⟩
  · have hbe : backE rest e = ⟨3, 0, rest.take N⟩ := by
      unfold backE
      rw [if_pos hk, hn]
      rfl
    rw [hk, hn, ← hq]
    have HBE := Lib.hid hbe
    have CC := Lib.hid (clone_any (w1.alloc (.cells #[.int .i64 2, .int .i64 N, .slice R q c] 116)) B PA' N pc (rest.take N) (by omega) (hPA.step (bel_alloc0 (Below.refl _ _)) (by omega)))
    have NL := Lib.hid hPA.len
    clear hbe hk hr hn hme hoq hq hrun hp hPA
    go_enter Try.func106, Try.ntmps106
    go_wp2_with fail
    refine CC.out.mono ?_
    rintro e0 w4 ⟨vr, rfl, hvr, hb4⟩
    have z4 := hb4.size; (try simp at z4)
    have k4 : ∀ o, w4.cell? ⟨w1.heap.size, o, none⟩ = _ := fun o => hb4.cell (p := ⟨_, o, none⟩) (by first | (simp; done) | (simp; omega) | omega); have k4l : w1.heap.size < w4.heap.size := Nat.lt_of_lt_of_le (by first | (simp; done) | (simp; omega) | omega) hb4.size
    have kf4 : ∀ o, w4.frozen? ⟨w1.heap.size, o, none⟩ = _ := fun o => hb4.frozen (p := ⟨_, o, none⟩) (by first | (simp; done) | (simp; omega) | omega)
    obtain ⟨ra, rc, rfl⟩ := own_shape hvr
    have hne : ∀ g, g ≠ w1.heap.size → (((w4.setCell ⟨w1.heap.size, 0, none⟩ (.int .i64 3)).setCell ⟨w1.heap.size, 1, none⟩ (.int .i64 0)).setCell ⟨w1.heap.size, 2, none⟩ (.slice ra (rest.take N).length rc)).heap[g]? = w4.heap[g]? := fun g hg =>
      (Below.heap_setCell _ _ _ g hg).trans ((Below.heap_setCell _ _ _ g hg).trans (Below.heap_setCell _ _ _ g hg))
    have hold : ∀ g, g < w1.heap.size → w4.heap[g]? = w1.heap[g]? := fun g hg => (hb4.block g (by simp; omega)).trans (Below.heap_alloc w1 _ g hg)
    have HO5 := own_kept HOWN (w' := (((w4.setCell ⟨w1.heap.size, 0, none⟩ (.int .i64 3)).setCell ⟨w1.heap.size, 1, none⟩ (.int .i64 0)).setCell ⟨w1.heap.size, 2, none⟩ (.slice ra (rest.take N).length rc))) (fun g hg => (hne g (by have := (World.ownsRow.lt HOWN g hg).2; omega)).trans (hold g (World.ownsRow.lt HOWN g hg).2))
    have gb5 := (hne Bo (by omega)).trans (hold Bo hlt)
    have hvw := own_wf hvr
    have hrv5 : ∀ x : Obj, RecOf ((((w4.setCell ⟨w1.heap.size, 0, none⟩ (.int .i64 3)).setCell ⟨w1.heap.size, 1, none⟩ (.int .i64 0)).setCell ⟨w1.heap.size, 2, none⟩ (.slice ra (rest.take N).length rc)).alloc x) (Bo + 1) (.slice ra (rest.take N).length rc) (rest.take N) := by
      intro x
      refine ⟨ra, rc, rfl, hvw, .inr ?_⟩
      have h1 := own_kept hvr (w' := (((w4.setCell ⟨w1.heap.size, 0, none⟩ (.int .i64 3)).setCell ⟨w1.heap.size, 1, none⟩ (.int .i64 0)).setCell ⟨w1.heap.size, 2, none⟩ (.slice ra (rest.take N).length rc)).alloc x) (fun g hg => by
        have hl := World.ownsRow.lt hvr g hg
        simp at hl
        exact (Below.heap_alloc _ x g (by simp; omega)).trans (hne g (by omega)))
      exact ⟨h1.1, h1.2.imp id fun ⟨g, cap, cur, e1, e2, e3⟩ => ⟨g, cap, cur, e1, by simp at e2; omega, e3⟩⟩
    have HRV := Lib.hid hrv5
    have hbl : ∀ x : Obj, Below w1.heap.size w1 ((((w4.setCell ⟨w1.heap.size, 0, none⟩ (.int .i64 3)).setCell ⟨w1.heap.size, 1, none⟩ (.int .i64 0)).setCell ⟨w1.heap.size, 2, none⟩ (.slice ra (rest.take N).length rc)).alloc x) := by
      intro x
      (repeat (first | (with_reducible exact Below.refl _ _) | (with_reducible assumption) | (with_reducible refine Below.drew ?_) | (with_reducible refine below_drewN ?_ _) | ((with_reducible refine bel_set ?_ ?_); (focus (first | (simp; done) | (simp; omega) | omega | (simp at *; omega)))) | (with_reducible refine bel_alloc0 ?_) | (with_reducible refine bel_step0 (by assumption) ?_) | ((with_reducible refine bel_alloc ?_ ?_); (focus (first | (simp; done) | (simp; omega) | omega | (simp at *; omega)))) | ((with_reducible refine bel_step (by assumption) ?_ ?_); (focus (first | (simp; done) | (simp; omega) | omega | (simp at *; omega))))))
    have k5 := (World.cell?_of_block (a := ⟨Bo, 0, none⟩) (hold Bo hlt)).trans c0
    have k6 := (World.frozen?_of_block (a := ⟨Bo, 0, none⟩) (hold Bo hlt)).trans f0
    have hnb : Bo ≠ w1.heap.size := by omega
    clear hne hold hvr hrv5 hvw
    rw [NL.out] at *
    go_wp2_with (at_builtin; refine wpList_app rfl (.tmp 18) (.tmp 20) 25 rfl (Bo + 1) 116 i0 _ 3 40 Try.underlying25 hi0 hz0 hz1 hz2 rfl (by decide) _ _ _ (by rfl) (HO5.alloc _) _ 1 1 [.int .i64 3, .int .i64 0, .slice ra N rc] (by rfl) (Src.of_blk (g := w4.heap.size) (Blk.made_at _ _ _ (by simp)) 1 1 3 rfl) (ed_any _ _ _ rfl) (by unfold maxLen; omega) (by omega) (by simp; omega) ?_; intro v3 w3 hown3 hg3 hat3; obtain ⟨A3, c3, rfl⟩ := own_shape hown3; have gb := hg3.block Bo (by simp; omega) mne; have gb2 := gb.trans ((Below.heap_alloc _ _ Bo (by simp; omega)).trans gb5); have p3 := (World.cell?_of_block (a := ⟨Bo, 0, none⟩) gb2).trans c0; have p4 := (World.frozen?_of_block (a := ⟨Bo, 0, none⟩) gb2).trans f0)
    refine bodyPost_end (results_none rfl _ _ _) rfl ?_
    have hoq := HOQ.out
    subst hoq
    exact ⟨rfl, back_fin (be := ⟨3, 0, rest.take N⟩) hB hBo HP.out hb (hbl _) (HRV.out _) HRUN.out HBE.out hown3 rfl hg3⟩
  · have hbe : backE rest e = ⟨2, (q : Int), []⟩ := by
      unfold backE
      rw [if_neg (by omega), if_pos hk, hq]
    rw [hk, hn, ← hq]
    rw [← hq] at hel
    have HBE := Lib.hid hbe
    clear hbe hk hr hn hme hoq hq hrun hp
    go_enter Try.func106, Try.ntmps106
    go_wp2_with (at_builtin; refine wpList_app rfl (.tmp 18) (.tmp 20) 25 rfl (Bo + 1) 116 i0 _ 3 40 Try.underlying25 hi0 hz0 hz1 hz2 rfl (by decide) _ _ _ (by rfl) ((HOWN.alloc _).alloc _) _ 1 1 [.int .i64 2, .int .i64 q, (.slice none 0 0)] (by rfl) (Src.of_blk (g := w1.heap.size + 1) (Blk.made_at _ _ _ (by simp)) 1 1 3 rfl) (ed_any _ _ _ rfl) (by unfold maxLen; omega) (by omega) (by simp; omega) ?_; intro v3 w3 hown3 hg3 hat3; obtain ⟨A3, c3, rfl⟩ := own_shape hown3; have gb := hg3.block Bo (by simp; omega) mne; have gb2 := gb.trans ((Below.heap_alloc _ _ Bo (by simp; omega)).trans (Below.heap_alloc w1 _ Bo hlt)); have p3 := (World.cell?_of_block (a := ⟨Bo, 0, none⟩) gb2).trans c0; have p4 := (World.frozen?_of_block (a := ⟨Bo, 0, none⟩) gb2).trans f0)
    refine bodyPost_end (results_none rfl _ _ _) rfl ?_
    have hoq := HOQ.out
    subst hoq
    exact ⟨rfl, back_fin (be := ⟨2, q, []⟩) hB hBo HP.out hb (bel_alloc0 (bel_alloc0 (Below.refl _ _))) ⟨none, 0, rfl, Wf.nil, .inl rfl⟩ HRUN.out HBE.out hown3 rfl hg3⟩
theorem PB.row {B Bo : Nat} {w0 wr : World} {a : List Rec} {done : List Ed} {A : Option Addr} {n c : Nat} {rvs : List Value} (h : PB B Bo w0 a done wr (.slice A n c) rvs) : (backL a done).length = n ∧ EdRow wr wr.heap.size A (backL a done) := by
  obtain ⟨A', c', e⟩ := own_shape h.own
  injection e with e1 e2 e3
  subst e1 e2 e3
  refine ⟨rfl, fun hn => ?_⟩
  obtain ⟨g, cap, hv⟩ : ∃ g cap, Value.slice A (backL a done).length c = .slice (some ⟨g, 0, none⟩) (backL a done).length cap := by
    rcases h.own.2 with ⟨_, h0⟩ | ⟨g, cap, cur, hv, _⟩
    · rw [h0] at hn; simp at hn
    · exact ⟨g, cap, hv⟩
  injection hv with e1 e2 e3
  subst e1
  have hown := h.own
  refine ⟨g, 0, rfl, (World.ownsRow.lt hown g rfl).2, fun i e he => ?_⟩
  have hi : i < (backL a done).length := (List.getElem?_eq_some_iff.1 he).1
  have hiv : i < rvs.length := by rw [h.len]; exact hi
  have hrv := List.getElem?_eq_getElem hiv
  obtain ⟨R, cc, hR, hrow, hwf⟩ := (h.recs i e _ he hrv).row
  obtain ⟨k0, k1, k2⟩ := edCells_get _ rvs i e _ h.len he hrv
  refine ⟨R, cc, ?_, ?_, ?_, hrow, hwf⟩
  · rw [Nat.zero_add, hown.cellAt _ (by omega)]; exact k0
  · rw [Nat.zero_add, hown.cellAt _ (by omega)]; exact k1
  · rw [Nat.zero_add, hown.cellAt _ (by omega), k2, hR]

def BackPost (a : List Rec) (es : List Ed) (w : World) (e : Ending) (w' : World) : Prop :=
  ∃ A n c, e = .returned (.tuple #[.slice A n c, .int .i64 0]) ∧ (backL a es).length = n ∧ EdRow w' w'.heap.size A (backL a es) ∧ Below w.heap.size w w'

set_option maxHeartbeats 400000 in
theorem back_any (w : World) (A L : Option Addr) (n c m d : Nat) (a : List Rec) (es : List Ed) (hm : es.length = m) (hal : a.length ≤ 1000) (hes : es.length ≤ 1000) (her : ∀ e ∈ es, e.recs.length ≤ 1000) (h0 : walkE a es = 0)
    (ha : Lie w w.heap.size A n c a) (hl : EdRow w w.heap.size L es) :
    Calls Try.prog 51 #[.slice A n c, .slice L m d] w (BackPost a es w) := by
  have hb0 : Below w.heap.size w (w.alloc (.cells #[.slice none 0 0] 25)) := bel_alloc0 (Below.refl _ _)
  have hbe := hb0
  have hB : w.heap.size ≤ (w.alloc (.cells #[.slice none 0 0] 25)).heap.size := by simp
  have C := Lib.hid (walk_any (w.alloc (.cells #[.slice none 0 0] 25)) 106 w.heap.size w.heap.size (PBp w.heap.size w.heap.size (w.alloc (.cells #[.slice none 0 0] 25)) a) A L n c m d a es hm (by omega) call_back1 hB
    (ha.keep hb0) (hl.below hb0) ⟨.slice none 0 0, [], Blk.made _ _ _, rfl, World.ownsRow_nil _ _ _ _, fun i e rv h _ => by simp [backL] at h, Below.refl _ _⟩ (fun done wr w' ⟨v, out, hp⟩ hb => ⟨v, out, hp.stab hB hb⟩) (fun done wr ⟨v, out, hp⟩ => hp.bel)
    (back1_ok hB (Nat.le_refl _) hal hes her))
  have H0 := Lib.hid h0
  clear ha hl hm hbe h0
  go_enter Try.func51, Try.ntmps51
  go_wp2_with fail
  refine C.out.mono ?_
  rintro e w1 ⟨done, rfl, ⟨v, rvs, hp⟩, hdone⟩
  obtain rfl := hdone H0.out
  rw [H0.out]
  obtain ⟨va, vc, rfl⟩ := own_shape hp.own
  have c0 := hp.blk.cell 0
  simp at c0
  have hbel : Below w.heap.size w w1 := ⟨hp.bel.os.trans hb0.os, hp.bel.tape.trans hb0.tape, hp.bel.output.trans hb0.output, Nat.le_trans hb0.size hp.bel.size, fun i hi => (hp.bel.block i hi).trans (hb0.block i hi)⟩
  have hrow := hp.row
  have HR := Lib.hid hrow
  clear hb0 hB C hp hdone hrow
  generalize hq : (backL a done).length = q at *
  have HQ := Lib.hid hq
  clear hq
  go_wp2_with fail
  refine bodyPost_ret (v := .tuple #[.slice va q vc, .int .i64 0]) (by simp [results, Try.results51, go_sem]) rfl ⟨va, q, vc, rfl, HQ.out, HR.out.2, hbel⟩
end Go.Proofs.Ytdfpcnldfibceaa.Diff
