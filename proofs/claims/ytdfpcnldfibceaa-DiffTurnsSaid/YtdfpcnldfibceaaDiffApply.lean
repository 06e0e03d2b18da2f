/-
  The walks of package diff's Apply$1 and Apply.
-/
import Derived.Test.YtdfpcnldfibceaaDiffStep
import Derived.Test.YtdfpcnldfibceaaDiffAdd
namespace Go.Proofs.Ytdfpcnldfibceaa.Diff
open Go.RowKit Go.Proofs.Ytdfpcnldfibceaa.Mem Go.Proofs.Ytdfpcnldfibceaa.Recs

def total : List Ed → Nat
  | [] => 0
  | e :: es => e.recs.length + total es
theorem run_len : ∀ {es : List Ed} {a o r o' : List Rec}, runE es (a, o) = some (r, o') → o'.length ≤ o.length + a.length + total es
  | [], a, o, r, o', h => by
    simp only [runE, Option.some.injEq, Prod.mk.injEq] at h
    rw [← h.2]; omega
  | e :: es, a, o, r, o', h => by
    simp only [runE] at h
    cases hs : stepE (a, o) e with
    | none => rw [hs] at h; cases h
    | some s =>
      rw [hs] at h
      obtain ⟨a1, o1⟩ := s
      have h1 := run_len (es := es) h
      unfold stepE at hs
      split at hs
      · cases hs
      · simp only [Option.some.injEq, Prod.mk.injEq] at hs
        obtain ⟨ha, ho⟩ := hs
        have e1 : a1.length = a.length - e.n.toNat := by rw [← ha, List.length_drop]
        have e2 : o1.length ≤ o.length + (a.length - a1.length) + e.recs.length := by
          rw [← ho]
          split
          · rw [List.length_append, List.length_take]; omega
          · split
            · rw [List.length_append]; omega
            · omega
        simp only [total]
        omega
theorem total_le : ∀ {es : List Ed} {b : Nat}, (∀ e ∈ es, e.recs.length ≤ b) → total es ≤ es.length * b
  | [], b, _ => by simp [total]
  | e :: es, b, h => by
    have h1 := total_le (es := es) (fun x hx => h x (by simp [hx]))
    have h2 := h e (by simp)
    simp only [total, List.length_cons]
    rw [Nat.add_mul]
    omega

theorem run_rest : ∀ {es : List Ed} {a o r o' : List Rec}, runE es (a, o) = some (r, o') → r.length ≤ a.length
  | [], a, o, r, o', h => by
    simp only [runE, Option.some.injEq, Prod.mk.injEq] at h
    rw [h.1]; exact Nat.le_refl _
  | e :: es, a, o, r, o', h => by
    simp only [runE] at h
    cases hs : stepE (a, o) e with
    | none => rw [hs] at h; cases h
    | some s =>
      rw [hs] at h
      obtain ⟨a1, o1⟩ := s
      have h1 := run_rest (es := es) h
      unfold stepE at hs
      split at hs
      · cases hs
      · simp only [Option.some.injEq, Prod.mk.injEq] at hs
        have e1 : a1.length = a.length - e.n.toNat := by rw [← hs.1, List.length_drop]
        omega

/-- What is said of the log that is made, while the walk goes. -/
structure PA (B Bo : Nat) (w0 : World) (a : List Rec) (done : List Ed) (wr : World) (v : Value) (out : List Rec) : Prop where
  blk : Blk wr Bo 22 #[v]
  own : OwnsRecs wr (Bo + 1) v out
  run : ∃ rest, runE done (a, []) = some (rest, out)
  bel : Below B w0 wr
def PAp (B Bo : Nat) (w0 : World) (a : List Rec) (done : List Ed) (wr : World) : Prop := ∃ v out, PA B Bo w0 a done wr v out
theorem PA.stab {B Bo : Nat} {w0 wr w' : World} {a : List Rec} {done : List Ed} {v : Value} {out : List Rec} (h : PA B Bo w0 a done wr v out) (hB : B ≤ w0.heap.size) (hb : Below wr.heap.size wr w') : PA B Bo w0 a done w' v out :=
  ⟨h.blk.step hb, own_kept h.own (fun g hg => hb.block g (World.ownsRow.lt h.own g hg).2), h.run, bel_step hb (Nat.le_trans hB h.bel.size) h.bel⟩

theorem PA.run_of {B Bo : Nat} {w0 wr w' : World} {a rest : List Rec} {done done' : List Ed} {v : Value} {out : List Rec} (h : PA B Bo w0 a done wr v out) (hb : Below wr.heap.size wr w') (hB : B ≤ w0.heap.size) (hr : runE done' (a, []) = some (rest, out)) : PA B Bo w0 a done' w' v out :=
  ⟨(h.stab hB hb).blk, (h.stab hB hb).own, ⟨rest, hr⟩, (h.stab hB hb).bel⟩
theorem call_apply1 (args : Array Value) (w : World) : (callFunc 97 args).run Try.prog w = .ok (.enter 97 args) w := by
  simp [callFunc, go_sem, Try.func97]
  rfl
theorem apply_fin {B Bo : Nat} {w0 wr w1 w3 : World} {a : List Rec} {done : List Ed} {e : Ed} {v v3 : Value} {out l rest : List Rec} {n3 : Nat} {o : Obj} (hB : B ≤ w0.heap.size) (hBo : B ≤ Bo) (hp : PA B Bo w0 a done wr v out) (hb : Below wr.heap.size wr w1)
    (hown : w3.ownsRow (Bo + 1) 91 4 v3 n3 (recsCells out ++ recsCells l)) (hn3 : n3 = out.length + l.length) (hg : (w1.alloc o).grownBy w3 v.ownBlock) (hrun : runE (done ++ [e]) (a, []) = some (rest, out ++ l)) :
    PAp B Bo w0 a (done ++ [e]) (w3.setCell ⟨Bo, 0, none⟩ v3) ∧ w1.heap.size ≤ (w3.setCell ⟨Bo, 0, none⟩ v3).heap.size ∧ ∀ g, wr.heap.size ≤ g → g < w1.heap.size → (w3.setCell ⟨Bo, 0, none⟩ v3).heap[g]? = w1.heap[g]? := by
  subst hn3
  have hp1 := hp.stab hB hb
  have hlo : ∀ k, v.ownBlock = some k → Bo + 1 ≤ k ∧ k < wr.heap.size := fun k hk => World.ownsRow.lt hp.own k hk
  have hl := hp.blk.lt
  have hz := hb.size
  have hblk : Blk w3 Bo 22 #[v] := (hp1.blk.alloc o).grown hg (fun e => by have := (hlo Bo e.symm).1; omega)
  have hz3 : w1.heap.size + 1 ≤ w3.heap.size := by have := hg.size; simp at this; exact this
  refine ⟨⟨v3, out ++ l, hblk.set 0 _, ?_, ⟨rest, hrun⟩, ?_⟩, ?_, ?_⟩
  · have hown' : OwnsRecs w3 (Bo + 1) v3 (out ++ l) := by
      unfold OwnsRecs
      rw [recsCells_append, List.length_append]
      exact hown
    exact own_kept hown' (fun g hg' => Below.heap_setCell w3 _ _ g (fun e => by have := (World.ownsRow.lt hown' g hg').1; rw [e] at this; simp at this; omega))
  · have h1 : Below B w0 (w1.alloc o) := bel_alloc (Nat.le_trans hB hp1.bel.size) hp1.bel
    exact bel_set (p := ⟨Bo, 0, none⟩) hBo (h1.grown hg (Nat.le_trans hB h1.size) (fun k hk => by have := (hlo k hk).1; omega))
  · simp only [World.setCell, Array.size_modify]; omega
  · intro g h1 h2
    exact (Below.heap_setCell w3 ⟨Bo, 0, none⟩ v3 g (show g ≠ Bo by omega)).trans ((hg.block g (by simp; omega) (fun e => by have := (hlo g e.symm).2; omega)).trans (Below.heap_alloc w1 o g h2))

set_option maxHeartbeats 400000 in
set_option maxRecDepth 100000 in
theorem apply1_ok {B Bo : Nat} {w0 : World} {a : List Rec} {es : List Ed} (hB : B ≤ w0.heap.size) (hBo : B ≤ Bo) (ha : a.length ≤ 1000) (hes : es.length ≤ 1000) (her : ∀ e ∈ es, e.recs.length ≤ 1000) :
    StepOk 97 Bo B (PAp B Bo w0 a) a es := by
  intro done e rest o wr w1 R c PA' pc N hpre hme hrun hn hN hp hb hR hPA
  obtain ⟨v, out, hp⟩ := hp
  obtain ⟨j0, hj0, hy0, hy1, hy2⟩ := info_parts info_rec
  have hout : out = o := by
    obtain ⟨r', h⟩ := hp.run
    rw [hrun] at h
    injection h with h
    injection h with h1 h2
    exact h2.symm
  subst hout
  have hlen : out.length ≤ 1001000 := by
    have h1 := run_len hrun
    have h2 := total_le (es := done) (b := 1000) (fun x hx => her x (hpre.subset (by simp [hx])))
    have h3 := hpre.length_le
    simp only [List.length_append, List.length_cons, List.length_nil] at h1 h3
    omega
  have hel := her e (hpre.subset (by simp))
  have hp1 := hp.stab hB hb
  have hzr := hp.bel.size
  have hz := hb.size
  obtain ⟨va, vc, rfl⟩ := own_shape hp.own
  have c0 := hp1.blk.cell 0
  have f0 := hp1.blk.frozen 0
  have hlt := hp1.blk.lt
  simp at c0
  have hbox : ∀ x : Obj, Below w1.heap.size w1 (w1.alloc x) := fun x => bel_alloc0 (Below.refl _ _)
  have s1 := fun x => (hPA.step (hbox x) (by omega)).src
  have s2 := fun x => (hR.step (hbox x) (by omega)).src
  have hrn : ¬ (rest.length : Int) < (N : Int) := by omega
  have hra := run_rest hrun
  have hstep : ∀ l, (if e.kind = 1 then out ++ rest.take N else if e.kind = 3 then out ++ e.recs else out) = out ++ l → runE (done ++ [e]) (a, []) = some (rest.drop N, out ++ l) := by
    intro l hl
    rw [runE_snoc, hrun]
    simp only [Option.bind_some, stepE, hn, Int.toNat_natCast]
    rw [if_neg hrn, hl]
  have HOWN := hp1.own
  unfold OwnsRecs at HOWN
  have mne : some Bo ≠ Value.ownBlock (.slice va out.length vc) := fun h => by have := (World.ownsRow.lt HOWN Bo h.symm).1; omega
  obtain ⟨oq, hoq⟩ : ∃ oq, oq = out.length := ⟨_, rfl⟩
  rw [← hoq] at c0 HOWN hlen mne
  have HOQ := Lib.hid hoq
  rcases mayE_cases hme with ⟨hk, h1, hr⟩ | ⟨hk, h1, hr⟩ | ⟨hk, h1, hr⟩
  · have run1 := hstep (rest.take N) (by rw [if_pos hk])
    have RUN := Lib.hid run1
    have hNl : (rest.take N).length = N := hPA.len
    obtain ⟨q, hq⟩ : ∃ q, q = e.recs.length := ⟨_, rfl⟩
    rw [hk, hn, ← hq]
    clear hstep run1 hrn hk hr hn hme hoq hq hrun
    go_enter Try.func97, Try.ntmps97
    go_wp2_with (at_builtin; refine wpList_app rfl (.tmp 9) (.tmp 10) 22 rfl (Bo + 1) 91 j0 _ 4 48 Try.underlying22 hj0 hy0 hy1 hy2 rfl (by decide) _ _ _ (by rfl) (HOWN.alloc _) _ N _ (recsCells (rest.take N)) (by rfl) (s1 _) (recsCells_one _) (by unfold maxLen; omega) (by omega) (by simp; omega) ?_; intro v3 w3 hown3 hg3 hat3; obtain ⟨A3, c3, rfl⟩ := own_shape hown3; have gb : w3.heap[Bo]? = w1.heap[Bo]? := (hg3.block Bo (by simp; omega) mne).trans (Below.heap_alloc w1 _ Bo hlt); have p3 := (World.cell?_of_block (a := ⟨Bo, 0, none⟩) gb).trans c0; have p4 := (World.frozen?_of_block (a := ⟨Bo, 0, none⟩) gb).trans f0)
    refine bodyPost_end (results_none rfl _ _ _) rfl ?_
    have hoq := HOQ.out
    subst hoq
    exact ⟨rfl, apply_fin hB hBo hp hb hown3 (by rw [hNl]) hg3 RUN.out⟩
  · have run1 := hstep [] (by rw [if_neg (by omega), if_neg (by omega), List.append_nil])
    rw [List.append_nil] at run1
    have RUN := Lib.hid run1
    obtain ⟨q, hq⟩ : ∃ q, q = e.recs.length := ⟨_, rfl⟩
    rw [hk, hn, ← hq]
    clear hstep run1 hrn hk hr hn hme hoq hq hrun
    go_enter Try.func97, Try.ntmps97
    go_wp2_with fail
    refine bodyPost_end (results_none rfl _ _ _) rfl ⟨rfl, ⟨_, out, (hp.stab hB hb).run_of (hbox _) hB RUN.out⟩, by simp, fun g h1 h2 => Below.heap_alloc w1 _ g h2⟩
  · have run1 := hstep e.recs (by rw [if_neg (by omega), if_pos hk])
    have RUN := Lib.hid run1
    obtain ⟨q, hq⟩ : ∃ q, q = e.recs.length := ⟨_, rfl⟩
    have hQ := Lib.hid hq
    rw [hk, hn, ← hq]
    rw [← hq] at s2 hel
    clear hstep run1 hrn hk hr hn hme hoq hq hrun
    go_enter Try.func97, Try.ntmps97
    go_wp2_with (at_builtin; refine wpList_app rfl (.tmp 14) (.tmp 16) 22 rfl (Bo + 1) 91 j0 _ 4 48 Try.underlying22 hj0 hy0 hy1 hy2 rfl (by decide) _ _ _ (by rfl) (HOWN.alloc _) _ q _ (recsCells e.recs) (by rfl) (s2 _) (recsCells_one _) (by unfold maxLen; omega) (by omega) (by simp; omega) ?_; intro v3 w3 hown3 hg3 hat3; obtain ⟨A3, c3, rfl⟩ := own_shape hown3; have gb : w3.heap[Bo]? = w1.heap[Bo]? := (hg3.block Bo (by simp; omega) mne).trans (Below.heap_alloc w1 _ Bo hlt); have p3 := (World.cell?_of_block (a := ⟨Bo, 0, none⟩) gb).trans c0; have p4 := (World.frozen?_of_block (a := ⟨Bo, 0, none⟩) gb).trans f0)
    refine bodyPost_end (results_none rfl _ _ _) rfl ?_
    have hoq := HOQ.out
    subst hoq
    exact ⟨rfl, apply_fin hB hBo hp hb hown3 (by rw [hQ.out]) hg3 RUN.out⟩
theorem walkE_zero {a : List Rec} {es : List Ed} (h : walkE a es = 0) : badB es = false ∧ ∃ out, runE es (a, []) = some ([], out) := by
  unfold walkE at h
  split at h
  · cases h
  · rename_i hb
    refine ⟨by simpa using hb, ?_⟩
    split at h
    · rename_i out ho; exact ⟨out, ho⟩
    · cases h
theorem walkE_of {a b : List Rec} {es : List Ed} (h1 : badB es = false) (h2 : runE es (a, []) = some ([], b)) : walkE a es = 0 := by
  unfold walkE
  rw [h1, h2]
  rfl

def ApplyPost (a : List Rec) (es : List Ed) (w : World) (e : Ending) (w' : World) : Prop :=
  ∃ v out, e = .returned (.tuple #[v, .int .i64 (walkE a es)]) ∧ OwnsRecs w' w.heap.size v out ∧ (walkE a es = 0 → runE es (a, []) = some ([], out)) ∧ (walkE a es ≠ 0 → out = []) ∧ Below w.heap.size w w'

set_option maxHeartbeats 400000 in
theorem apply_any (w : World) (A L : Option Addr) (n c m d : Nat) (a : List Rec) (es : List Ed) (hm : es.length = m) (hal : a.length ≤ 1000) (hes : es.length ≤ 1000) (her : ∀ e ∈ es, e.recs.length ≤ 1000)
    (ha : Lie w w.heap.size A n c a) (hl : EdRow w w.heap.size L es) :
    Calls Try.prog 42 #[.slice A n c, .slice L m d] w (ApplyPost a es w) := by
  have hb0 : Below w.heap.size w (w.alloc (.cells #[.slice none 0 0] 22)) := bel_alloc0 (Below.refl _ _)
  have hbe := hb0
  have hB : w.heap.size ≤ (w.alloc (.cells #[.slice none 0 0] 22)).heap.size := by simp
  have C := Lib.hid (walk_any (w.alloc (.cells #[.slice none 0 0] 22)) 97 w.heap.size w.heap.size (PAp w.heap.size w.heap.size (w.alloc (.cells #[.slice none 0 0] 22)) a) A L n c m d a es hm (by omega) call_apply1 hB
    (ha.keep hb0) (hl.below hb0) ⟨.slice none 0 0, [], Blk.made _ _ _, World.ownsRow_nil _ _ _ _, ⟨a, rfl⟩, Below.refl _ _⟩ (fun done wr w' ⟨v, out, hp⟩ hb => ⟨v, out, hp.stab hB hb⟩) (fun done wr ⟨v, out, hp⟩ => hp.bel)
    (apply1_ok hB (Nat.le_refl _) hal hes her))
  clear ha hl hm hbe
  go_enter Try.func42, Try.ntmps42
  go_wp2_with fail
  refine C.out.mono ?_
  rintro e w1 ⟨done, rfl, ⟨v, out, hp⟩, hdone⟩
  obtain ⟨va, vc, rfl⟩ := own_shape hp.own
  have c0 := hp.blk.cell 0
  simp at c0
  have HP := Lib.hid hp.run
  have hbel : Below w.heap.size w w1 := ⟨hp.bel.os.trans hb0.os, hp.bel.tape.trans hb0.tape, hp.bel.output.trans hb0.output, Nat.le_trans hb0.size hp.bel.size, fun i hi => (hp.bel.block i hi).trans (hb0.block i hi)⟩
  have HOWN := hp.own
  clear hb0 hB C hp
  obtain ⟨x, hx⟩ : ∃ x, x = walkE a es := ⟨_, rfl⟩
  rw [← hx] at hdone ⊢
  have HX := Lib.hid hx
  have HD := Lib.hid hdone
  clear hx hdone
  by_cases h0 : x = 0
  · subst h0
    go_wp2_with fail
    refine bodyPost_ret (v := .tuple #[.slice va out.length vc, .int .i64 0]) (by simp [results, Try.results42, go_sem]) rfl ⟨_, out, by rw [← HX.out], ?_, fun _ => ?_, fun h => absurd HX.out.symm h, hbel⟩
    · exact ⟨HOWN.1, HOWN.2.imp id fun ⟨g, cap, cur, h1, h2, h3⟩ => ⟨g, cap, cur, h1, Nat.le_of_succ_le h2, h3⟩⟩
    · obtain ⟨_, out', ho⟩ := walkE_zero HX.out.symm
      obtain ⟨r, hr⟩ := HP.out
      rw [HD.out trivial, ho] at hr
      injection hr with hr
      injection hr with h1 h2
      rw [← h2]
      exact ho
  · have hxb : (x != 0) = true := by simp [h0]
    go_wp2_with fail
    refine bodyPost_ret (v := .tuple #[.slice none 0 0, .int .i64 x]) (by simp [results, Try.results42, go_sem]) rfl ⟨_, [], by rw [← HX.out], World.ownsRow_nil _ _ _ _, fun h => absurd (HX.out.trans h) h0, fun _ => rfl, hbel⟩
end Go.Proofs.Ytdfpcnldfibceaa.Diff
