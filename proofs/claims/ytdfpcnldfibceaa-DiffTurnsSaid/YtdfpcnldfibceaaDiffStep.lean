/-
  The walk of package diff's walk, for whatever step that keeps what is said of it.
-/
import Derived.Test.YtdfpcnldfibceaaDiffCost
import Derived.Deep.RegionHeld3
namespace Go.Proofs.Ytdfpcnldfibceaa.Diff
open Go.RowKit Go.Proofs.Ytdfpcnldfibceaa.Mem Go.Proofs.Ytdfpcnldfibceaa.Recs

/-- The error of a walk along a log. -/
def walkE (a : List Rec) (es : List Ed) : Int :=
  if badB es = true then 2 else match runE es (a, []) with
    | some ([], _) => 0
    | _ => 8

/-- A slice as it lies in memory, for reading and for appending. -/
structure Lie (w : World) (B : Nat) (A : Option Addr) (n c : Nat) (l : List Rec) : Prop where
  len : l.length = n
  row : Row w B A n 4 (recF l)
  wf : Wf A n c
theorem Lie.src {w : World} {B : Nat} {A : Option Addr} {n c : Nat} {l : List Rec} (h : Lie w B A n c l) : Src w A n c 4 (recsCells l) := by
  refine ⟨by rw [recsCells_length, h.len], ?_⟩
  cases hA : A with
  | none =>
    have := h.wf.1 hA
    exact .inl ⟨rfl, this.1, this.2⟩
  | some ad =>
    refine .inr ⟨ad, rfl, fun j u hu => ?_⟩
    have hj : j < (recsCells l).length := (List.getElem?_eq_some_iff.1 hu).1
    rw [recsCells_length, h.len] at hj
    obtain ⟨b, off, hb, _, hc⟩ := h.row (by omega)
    rw [hA] at hb
    injection hb with hb
    subst hb
    have h1 := hc (j / 4) (j % 4) (by omega) (by omega)
    have h2 := recsCells_get l (j / 4) (j % 4) (by have := h.len; omega) (by omega)
    rw [show j / 4 * 4 + j % 4 = j by omega] at h1 h2
    rw [hu] at h2
    rw [Mem.add_none, h1, h2]
theorem Lie.step {w w' : World} {B : Nat} {A : Option Addr} {n c : Nat} {l : List Rec} (h : Lie w B A n c l) (hb : Below w.heap.size w w') (hB : B ≤ w.heap.size) : Lie w' B A n c l := ⟨h.len, h.row.below (hb.mono hB), h.wf⟩
theorem Lie.keep {w w' : World} {B : Nat} {A : Option Addr} {n c : Nat} {l : List Rec} (h : Lie w B A n c l) (hb : Below B w w') : Lie w' B A n c l := ⟨h.len, h.row.below hb, h.wf⟩

theorem run_head {P : Program} {t e : TypeId} {s : Nat} (ht : P.underlying t = some (.slice e)) (hs : ∀ w, (sizeOf e).run P w = .ok s w) (A : Option Addr) (len cap : Nat) (kh : IntKind) (h : Int) (m : Nat) (hh : h = m) (hm : m ≤ cap) (w : World) :
    (Instr.slice t (.slice A len cap) none (some (.int kh h)) none).run P w = .ok (.slice (cutA A 0 cap s) m cap) w := by
  subst hh
  have he : P.elem t = e := by simp [Program.elem, ht]
  rw [run_slice_h w t A len cap (by rw [he]; exact ht) kh (m : Int) (by omega) (by omega), he, hs]
  rfl
theorem wf_cut {A : Option Addr} {n c k m s : Nat} (h : Wf A n c) (hk : k + m ≤ n) : Wf (cutA A k c s) m (c - k) := by
  unfold cutA
  have h2 := h.2
  refine ⟨fun hA => ?_, by omega⟩
  split at hA
  · have := h.1 hA; omega
  · cases hA' : A with
    | none => have := h.1 hA'; omega
    | some a => rw [hA'] at hA; cases hA
theorem Lie.cut {w : World} {B : Nat} {A : Option Addr} {n c : Nat} {l : List Rec} (h : Lie w B A n c l) (k : Nat) (hk : k ≤ n) : Lie w B (cutA A k c 4) (n - k) (c - k) (l.drop k) :=
  ⟨by rw [List.length_drop, h.len], h.row.cut k (n - k) (by omega) h.wf.2 (fun i j _ _ => by
    unfold recF
    simp only [List.getD_eq_getElem?_getD, List.getElem?_drop]), wf_cut h.wf (by omega)⟩
theorem Lie.head {w : World} {B : Nat} {A : Option Addr} {n c : Nat} {l : List Rec} (h : Lie w B A n c l) (m : Nat) (hm : m ≤ n) : Lie w B (cutA A 0 c 4) m c (l.take m) := by
  refine ⟨by rw [List.length_take, h.len]; omega, h.row.cut 0 m (by omega) h.wf.2 (fun i j hi _ => ?_), ?_⟩
  · unfold recF
    simp only [List.getD_eq_getElem?_getD, List.getElem?_take, hi, if_true, Nat.zero_add]
  · have := wf_cut h.wf (k := 0) (m := m) (s := 4) (by omega)
    simpa using this

theorem runE_fail {es : List Ed} {a r o : List Rec} {k : Nat} {e : Ed} (h : runE (es.take k) (a, []) = some (r, o)) (he : es[k]? = some e) (hn : (r.length : Int) < e.n) : runE es (a, []) = none := by
  obtain ⟨hk, hv⟩ := List.getElem?_eq_some_iff.1 he
  have hs : es = es.take k ++ e :: es.drop (k + 1) := by
    rw [← hv, ← List.drop_eq_getElem_cons hk, List.take_append_drop]
  rw [hs, runE_append, h]
  simp only [Option.bind_some, runE]
  have : stepE (r, o) e = none := by unfold stepE; rw [if_pos hn]
  rw [this]
  rfl
theorem runE_next {es : List Ed} {a r o : List Rec} {k : Nat} {e : Ed} (h : runE (es.take k) (a, []) = some (r, o)) (he : es[k]? = some e) (hn : ¬ (r.length : Int) < e.n) :
    es.take (k + 1) = es.take k ++ [e] ∧ ∃ o', runE (es.take (k + 1)) (a, []) = some (r.drop e.n.toNat, o') := by
  obtain ⟨hk, hv⟩ := List.getElem?_eq_some_iff.1 he
  have h1 : es.take (k + 1) = es.take k ++ [e] := by rw [List.take_succ_eq_append_getElem hk, hv]
  refine ⟨h1, ?_⟩
  rw [h1, runE_snoc, h]
  unfold stepE
  simp only [Option.bind_some]
  rw [if_neg hn]
  exact ⟨_, rfl⟩

def WalkPost (P : List Ed → World → Prop) (a : List Rec) (es : List Ed) (e : Ending) (w' : World) : Prop := ∃ done, e = .returned (.int .i64 (walkE a es)) ∧ P done w' ∧ (walkE a es = 0 → done = es)

/-- What a step is to do. -/
def StepOk (K : FuncId) (Bo B : Nat) (P : List Ed → World → Prop) (a : List Rec) (es : List Ed) : Prop :=
  ∀ (done : List Ed) (e : Ed) (rest o : List Rec) (wr w1 : World) (R : Option Addr) (c : Nat) (PA : Option Addr) (pc N : Nat), (done ++ [e]).IsPrefix es → mayE e = true → runE done (a, []) = some (rest, o) → e.n = (N : Int) → N ≤ rest.length → P done wr → Below wr.heap.size wr w1 →
    Lie w1 B R e.recs.length c e.recs → Lie w1 B PA N pc (rest.take N) →
    Calls Try.prog K #[.agg #[.int .i64 e.kind, .int .i64 e.n, .slice R e.recs.length c], .slice PA N pc, .pointer (some ⟨Bo, 0, none⟩)] w1 fun r w' => r = .returned (.tuple #[]) ∧ P (done ++ [e]) w' ∧ w1.heap.size ≤ w'.heap.size ∧
      ∀ g, wr.heap.size ≤ g → g < w1.heap.size → w'.heap[g]? = w1.heap[g]?

set_option maxHeartbeats 1000000 in
set_option maxRecDepth 100000 in
theorem walk_any (w0 : World) (K : FuncId) (Bo B : Nat) (P : List Ed → World → Prop) (A L : Option Addr) (n c m d : Nat) (a : List Rec) (es : List Ed) (hm : es.length = m) (hM : m ≤ 9223372036854775807)
    (hK : ∀ args w, (callFunc K args).run Try.prog w = .ok (.enter K args) w) (hB : B ≤ w0.heap.size) (ha : Lie w0 B A n c a) (hl : EdRow w0 B L es) (hstart : P [] w0) (hstab : ∀ done wr w', P done wr → Below wr.heap.size wr w' → P done w') (hbel : ∀ done wr, P done wr → Below B w0 wr) (hstep : StepOk K Bo B P a es) :
    Calls Try.prog 96 #[.slice A n c, .slice L m d, .func (Fn.func K) #[] #[.pointer (some ⟨Bo, 0, none⟩)]] w0 (WalkPost P a es) := by
  have HS := Lib.hid hstab
  have H0 := Lib.hid hstart
  have HBEL := Lib.hid hbel
  have HM := Lib.hid hm
  have C := Lib.hid (contains_any w0 L m d es hm hM (hl.mono hB))
  clear hstart hstab hbel hm
  cases hbad : badB es
  · have hmay := bad_may hbad
    rw [hbad] at C
    have hres : walkE a es = match runE es (a, []) with | some ([], _) => 0 | _ => 8 := by unfold walkE; rw [hbad]; rfl
    have HRES := Lib.hid hres
    clear hres hbad
    go_enter Try.func96, Try.ntmps96
    go_wp2_with fail
    refine C.out.mono ?_
    rintro e w1 ⟨rfl, hb1⟩
    have p0 := HS.out _ _ _ H0.out hb1
    go_wp2_with fail
    go_loopw [0, 14] (fun av i wr => ∃ (k : Nat) (A' : Option Addr) (n' c' : Nat) (rest o : List Rec), k ≤ m ∧ i = .int .i64 k ∧ av = .slice A' n' c' ∧ n' ≤ n ∧ Hid (runE (es.take k) (a, []) = some (rest, o)) ∧ Lie w0 B A' n' c' rest ∧ P (es.take k) wr)
      (fun _ i _ => m - (intOf i).toNat)
    case atStart => exact ⟨0, A, n, c, a, [], by omega, rfl, rfl, Nat.le_refl _, rfl, ha, p0⟩
    case round =>
      clear p0
      obtain ⟨k, A', n', c', rest, o, hk, rfl, rfl, hn', hrun, hlie, hp⟩ := hrel
      by_cases hlt : k < m
      · have hbr := HBEL.out _ _ hp
        have hbs := hbr.size
        obtain ⟨b, off, rfl, hbb, hc⟩ := (hl.below hbr) (by have := HM.out; omega)
        have hi : k < es.length := by have := HM.out; omega
        have hge : es[k]? = some es[k] := List.getElem?_eq_getElem hi
        obtain ⟨R, rc, c0, c1, c2, hr, hwf⟩ := hc k _ hge
        have hme := hmay _ (List.getElem_mem hi)
        generalize es[k] = e at *
        have hn0 : 0 ≤ e.n := by rcases mayE_cases hme with h | h | h <;> omega
        obtain ⟨N, hNN⟩ : ∃ N : Nat, e.n = (N : Int) := ⟨e.n.toNat, by omega⟩
        have hlr : rest.length = n' := hlie.len
        have hRl : Lie wr B R e.recs.length rc e.recs := ⟨rfl, hr, hwf⟩
        clear hc hi
        rw [hNN] at c1
        have i1 : (0 : Int) ≤ (k : Int) := by omega
        have i2 : (k : Int) < (m : Int) := by omega
        have hz := World.block_lt_of_cell? _ _ c0
        by_cases hle : N ≤ n'
        · obtain ⟨htk, o', hrun'⟩ := runE_next hrun.out hge (by rw [hNN, hlr]; omega)
          have CS := Lib.hid (fun w1 (h1 : Below wr.heap.size wr w1) => hstep (es.take k) e rest o wr w1 R rc (cutA A' 0 c' 4) c' N (by rw [← htk]; exact List.take_prefix _ _) hme hrun.out hNN (by omega) hp h1 (hRl.step h1 (by omega)) ((hlie.head N hle).keep (bel_step h1 (by omega) hbr)))
          rw [hNN] at CS hrun'
          simp only [Int.toNat_natCast] at hrun'
          have HTK := Lib.hid htk
          have HRUN := Lib.hid hrun'
          have hcap := hlie.wf.2
          have p1 := run_head (P := Try.prog) Try.underlying22 Try.sizeOf91 A' n' c' .i64 (N : Int) N rfl (by omega)
          have p2 := run_cut (P := Try.prog) Try.underlying22 Try.sizeOf91 A' n' c' .i64 (N : Int) N rfl hle
          obtain ⟨q, hq⟩ : ∃ q, q = e.recs.length := ⟨_, rfl⟩
          obtain ⟨kd, hkd⟩ : ∃ kd, kd = e.kind := ⟨_, rfl⟩
          rw [← hkd] at c0 CS
          rw [← hq] at c2 CS
          have hlie' := hlie.cut N hle
          clear hq hkd htk hrun' hNN hlr hge hme
          go_wp2_with fail
          go_region_held3 (fun w' => w'.cell? ⟨wr.heap.size, 0, none⟩ = some (.int .i64 kd) ∧ w'.cell? ⟨wr.heap.size, 1, none⟩ = some (.int .i64 N) ∧ w'.cell? ⟨wr.heap.size, 2, none⟩ = some (.slice R q rc))
            (first | go_keep | exact ⟨y0, y1, y2⟩)
            ((refine (CS.out _ (by (repeat (first | (with_reducible exact Below.refl _ _) | (with_reducible assumption) | (with_reducible refine Below.drew ?_) | (with_reducible refine below_drewN ?_ _) | ((with_reducible refine bel_set ?_ ?_); (focus (first | (simp; done) | (simp; omega) | omega | (simp at *; omega)))) | (with_reducible refine bel_alloc0 ?_) | (with_reducible refine bel_step0 (by assumption) ?_) | ((with_reducible refine bel_alloc ?_ ?_); (focus (first | (simp; done) | (simp; omega) | omega | (simp at *; omega)))) | ((with_reducible refine bel_step (by assumption) ?_ ?_); (focus (first | (simp; done) | (simp; omega) | omega | (simp at *; omega)))))))).mono ?_; rintro r w2 ⟨rfl, hp2, hz2, hk2⟩; have y0 : w2.cell? ⟨wr.heap.size, 0, none⟩ = some (.int .i64 kd) := (World.cell?_of_block (a := ⟨wr.heap.size, 0, none⟩) (hk2 wr.heap.size (Nat.le_refl _) (by simp))).trans (by simp); have y1 : w2.cell? ⟨wr.heap.size, 1, none⟩ = some (.int .i64 N) := (World.cell?_of_block (a := ⟨wr.heap.size, 1, none⟩) (hk2 wr.heap.size (Nat.le_refl _) (by simp))).trans (by simp); have y2 : w2.cell? ⟨wr.heap.size, 2, none⟩ = some (.slice R q rc) := (World.cell?_of_block (a := ⟨wr.heap.size, 2, none⟩) (hk2 wr.heap.size (Nat.le_refl _) (by simp))).trans (by simp)))
          go_wp2_with fail
          go_roundw
          case rel =>
            go_light
            exact ⟨k + 1, _, _, _, _, o', by omega, by go_num, rfl, by omega, HRUN, hlie', by rw [HTK.out]; exact hp2⟩
          case measure => go_light; simp [intOf]; omega
        · have hf := runE_fail hrun.out hge (by rw [hNN, hlr]; omega)
          have hr8 : walkE a es = 8 := by rw [HRES.out, hf]
          have HR8 := Lib.hid hr8
          obtain ⟨q, hq⟩ : ∃ q, q = e.recs.length := ⟨_, rfl⟩
          rw [← hq] at c2
          clear hr8 hf hq hNN hlr hge hme
          go_wp2_with fail
          go_ret
          go_light
          exact ⟨es.take k, by rw [HR8.out]; rfl, HS.out _ _ _ hp (bel_alloc0 (Below.refl _ _)), fun h => by rw [HR8.out] at h; cases h⟩
      · obtain rfl : k = m := by omega
        have hall : es.take k = es := List.take_of_length_le (by have := HM.out; omega)
        have HALL := Lib.hid hall
        have hr := hrun.out
        rw [hall] at hr
        have hlr : rest.length = n' := hlie.len
        clear hall
        rcases Nat.eq_zero_or_pos n' with h0 | h0
        · have hr0 : walkE a es = 0 := by
            have : rest = [] := List.eq_nil_of_length_eq_zero (by omega)
            rw [HRES.out, hr, this]
          have HR0 := Lib.hid hr0
          subst h0
          clear hr0 hr hlr
          go_wp2_with fail
          go_ret
          go_light
          exact ⟨es, by rw [HR0.out]; rfl, by have h := hp; rw [HALL.out] at h; exact h, fun _ => rfl⟩
        · have hr8 : walkE a es = 8 := by
            rw [HRES.out, hr]
            cases rest with
            | nil => simp at hlr; omega
            | cons x t => rfl
          have HR8 := Lib.hid hr8
          have h1 : decide (0 < n') = true := by simp; omega
          clear hr8 hr hlr
          go_wp2_with fail
          go_ret
          go_light
          exact ⟨es, by rw [HR8.out]; rfl, by have h := hp; rw [HALL.out] at h; exact h, fun _ => rfl⟩
  · rw [hbad] at C
    have hr2 : walkE a es = 2 := by unfold walkE; rw [hbad]; rfl
    have HR2 := Lib.hid hr2
    clear hr2 hbad
    go_enter Try.func96, Try.ntmps96
    go_wp2_with fail
    refine C.out.mono ?_
    rintro e w1 ⟨rfl, hb1⟩
    have p0 := HS.out _ _ _ H0.out hb1
    go_wp2_with fail
    go_ret
    exact ⟨[], by rw [HR2.out]; rfl, p0, fun h => by rw [HR2.out] at h; cases h⟩
end Go.Proofs.Ytdfpcnldfibceaa.Diff
