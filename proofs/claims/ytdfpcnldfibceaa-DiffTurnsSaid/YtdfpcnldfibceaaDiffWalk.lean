/-
  The walk of package diff's Diff.
-/
import Derived.Test.YtdfpcnldfibceaaDiffAdd
import Derived.Test.YtdfpcnldfibceaaDiffLaws
namespace Go.Proofs.Ytdfpcnldfibceaa.Diff
open Go.RowKit Go.Proofs.Ytdfpcnldfibceaa.Mem Go.Proofs.Ytdfpcnldfibceaa.Recs

theorem Only.blk {base Bo : Nat} {w w' : World} (h : Only base Bo w w') {g : Nat} {t : TypeId} {cs : Array Value} (hb : Blk w g t cs) (h1 : g < base) (h2 : g ≠ Bo) : Blk w' g t cs := (h.block g h1 h2).trans hb
theorem Only.below {base Bo B : Nat} {a w w' : World} (h : Only base Bo w w') (hb : Below B a w) (h1 : B ≤ Bo) (h2 : B ≤ base) : Below B a w' :=
  ⟨h.os.trans hb.os, h.tape.trans hb.tape, h.output.trans hb.output, Nat.le_trans hb.size h.size, fun i hi => (h.block i (by omega) (by omega)).trans (hb.block i hi)⟩
theorem Only.row {base Bo B n s : Nat} {w w' : World} {A : Option Addr} {f : Nat → Nat → Value} (h : Only base Bo w w') (hr : Row w B A n s f) (h1 : B ≤ Bo) (h2 : B ≤ base) : Row w' B A n s f :=
  hr.keep fun p hp => World.cell?_of_block (h.block p.block (by omega) (by omega))
theorem EdsAt.mono {w : World} {base base' : Nat} {v : Value} {es : List Ed} {rvs : List Value} (h : EdsAt w base v es rvs) (hb : base' ≤ base) : EdsAt w base' v es rvs :=
  ⟨h.len, ⟨h.own.1, h.own.2.imp id fun ⟨g, cap, cur, h1, h2, h3⟩ => ⟨g, cap, cur, h1, Nat.le_trans hb h2, h3⟩⟩,
    fun i e rv he hv => ⟨(h.recs i e rv he hv).1, (h.recs i e rv he hv).2.imp id fun ⟨g, cap, cur, h1, h2, h3⟩ => ⟨g, cap, cur, h1, Nat.le_trans hb h2, h3⟩⟩, h.apart⟩

theorem Small.add {t : Nat} {es : List Ed} (h : Small t es) (kind : Int) (l : List Rec) (hl : l.length ≤ 1) : Small (t + 1) (addE es kind l) := by
  rcases addE_cases es kind l with he | ⟨ini, e, rfl, hk, he⟩
  · rw [he]
    refine ⟨by have := h.1; simp; omega, fun x hx => ?_⟩
    rw [List.mem_append, List.mem_singleton] at hx
    rcases hx with hx | rfl
    · have := h.2 x hx; omega
    · refine ⟨?_, by simp; omega⟩
      simp only
      split <;> omega
  · rw [he]
    refine ⟨by have := h.1; simp at this ⊢; omega, fun x hx => ?_⟩
    rw [List.mem_append, List.mem_singleton] at hx
    rcases hx with hx | rfl
    · have := h.2 x (by simp [hx]); omega
    · have := h.2 e (by simp)
      refine ⟨?_, by simp; omega⟩
      simp only
      split <;> omega
theorem Small.mono {t t' : Nat} {es : List Ed} (h : Small t es) (ht : t ≤ t') : Small t' es := ⟨by have := h.1; omega, fun e he => by have := h.2 e he; omega⟩
theorem Small.nil (t : Nat) : Small t [] := ⟨by simp, fun e he => by simp at he⟩

section
variable {la lb : List Rec} {I J : Nat} {es : List Ed}
theorem go_keep_step {r : Rec} (h1 : la[I]? = some r) (h2 : lb[J]? = some r) : diffGo (la.drop I) (lb.drop J) es = diffGo (la.drop (I + 1)) (lb.drop (J + 1)) (addE es 1 []) := by
  rw [drop_of_get h1, drop_of_get h2, diffGo, if_pos rfl]
theorem go_drop_step {r r' : Rec} (h1 : la[I]? = some r) (h2 : lb[J]? = some r') (hne : r ≠ r') (hle : lcs (la.drop I) (lb.drop (J + 1)) ≤ lcs (la.drop (I + 1)) (lb.drop J)) :
    diffGo (la.drop I) (lb.drop J) es = diffGo (la.drop (I + 1)) (lb.drop J) (addE es 2 []) := by
  rw [drop_of_get h1, drop_of_get h2] at *
  rw [diffGo, if_neg hne, if_pos hle]
theorem go_add_step {r r' : Rec} (h1 : la[I]? = some r) (h2 : lb[J]? = some r') (hne : r ≠ r') (hle : ¬ lcs (la.drop I) (lb.drop (J + 1)) ≤ lcs (la.drop (I + 1)) (lb.drop J)) :
    diffGo (la.drop I) (lb.drop J) es = diffGo (la.drop I) (lb.drop (J + 1)) (addE es 3 [r']) := by
  rw [drop_of_get h1, drop_of_get h2] at *
  rw [diffGo, if_neg hne, if_neg hle]
theorem go_drop_end {r : Rec} (h1 : la[I]? = some r) (h2 : lb.length ≤ J) : diffGo (la.drop I) (lb.drop J) es = diffGo (la.drop (I + 1)) (lb.drop J) (addE es 2 []) := by
  rw [drop_of_get h1, List.drop_of_length_le h2, diffGo]
theorem go_add_end {r' : Rec} (h1 : la.length ≤ I) (h2 : lb[J]? = some r') : diffGo (la.drop I) (lb.drop J) es = diffGo (la.drop I) (lb.drop (J + 1)) (addE es 3 [r']) := by
  rw [drop_of_get h2, List.drop_of_length_le h1, diffGo]
theorem go_end (h1 : la.length ≤ I) (h2 : lb.length ≤ J) : diffGo (la.drop I) (lb.drop J) es = es := by
  rw [List.drop_of_length_le h1, List.drop_of_length_le h2, diffGo]
end

def DiffPost (la lb : List Rec) (w : World) (e : Ending) (w' : World) : Prop :=
  ∃ v rvs, e = .returned (.tuple #[v, .int .i64 0]) ∧ EdsAt w' w.heap.size v (diffL la lb) rvs ∧ Below w.heap.size w w'

/-- What is known at the head of a round. -/
structure St (w : World) (n m I J base Bo gt gc : Nat) (la lb : List Rec) (cs : Array Value) (es : List Ed) (v : Value) (rvs : List Value) (wr : World) : Prop where
  blk : Blk wr Bo 25 #[v]
  eds : EdsAt wr base v es rvs
  small : Small (I + J) es
  go : diffGo (la.drop I) (lb.drop J) es = diffL la lb
  size : base ≤ wr.heap.size
  tab : Blk wr gt 194 #[.int .i64 ((m + 1 : Nat) : Int), .slice (some ⟨gc, 0, none⟩) ((n + 1) * (m + 1)) ((n + 1) * (m + 1))]
  cells : Blk wr gc 21 cs
  bel : Below w.heap.size w wr

theorem St.next {w : World} {n m I J base Bo gt gc : Nat} {la lb : List Rec} {cs : Array Value} {es : List Ed} {v : Value} {rvs : List Value} {wr w1 wc : World} {kind : Int} {l : List Rec} {I' J' : Nat}
    (h : St w n m I J base Bo gt gc la lb cs es v rvs wr) (hwc : Below wr.heap.size wr wc) (ha : Added wc base Bo es kind l w1) (hl : l.length ≤ 1) (hB : w.heap.size ≤ Bo) (hBb : Bo < base) (h1 : gt < base) (h2 : gc < base)
    (hIJ : I + J + 1 ≤ I' + J') (hgo : diffGo (la.drop I) (lb.drop J) es = diffGo (la.drop I') (lb.drop J') (addE es kind l)) :
    ∃ es' v' rvs', St w n m I' J' base Bo gt gc la lb cs es' v' rvs' w1 := by
  obtain ⟨v', rvs', b1, b2, b3⟩ := ha
  have e1 : gt ≠ Bo := Blk.apart h.tab h.blk (by decide)
  have e2 : gc ≠ Bo := Blk.apart h.cells h.blk (by decide)
  have z := hwc.size
  refine ⟨_, v', rvs', b1, b2, (h.small.add kind l hl).mono hIJ, by rw [← hgo]; exact h.go, by have := b3.size; have := h.size; omega, b3.blk (h.tab.step hwc) h1 e1, b3.blk (h.cells.step hwc) h2 e2,
    b3.below (bel_step hwc h.bel.size h.bel) (by omega) (by omega)⟩

theorem src_nil (w : World) : SrcB w none 0 0 [] := ⟨rfl, .inl ⟨rfl, rfl, rfl⟩⟩
theorem src_one (w : World) (r : Rec) : SrcB (w.alloc (.cells #[.int .u64 r.time, .int .u8 r.level, .string r.source, .string r.text] 91)) (some ⟨w.heap.size, 0, none⟩) 1 1 [r] :=
  ⟨rfl, .inr ⟨_, _, rfl, Blk.made _ _ _, rfl⟩⟩

set_option maxHeartbeats 1000000 in
set_option maxRecDepth 100000 in
theorem diff_any (w : World) (A B : Option Addr) (n m c d : Nat) (la lb : List Rec) (hn : la.length = n) (hm : lb.length = m) (hN : n ≤ 1000) (hM : m ≤ 1000)
    (ha : Row w w.heap.size A n 4 (recF la)) (hb : Row w w.heap.size B m 4 (recF lb)) :
    Calls Try.prog 31 #[.slice A n c, .slice B m d] w (DiffPost la lb w) := by
  have hP : (n + 1) * (m + 1) ≤ 8388608 := Nat.le_trans (Nat.mul_le_mul (show n + 1 ≤ 1001 by omega) (show m + 1 ≤ 1001 by omega)) (by omega)
  have FILL := Lib.hid (fill_any w A B n m c d la lb hn hm (by omega) (by omega) hP ha hb)
  have HN := Lib.hid hn
  have HM := Lib.hid hm
  have hq : 0 < n → (m : Int) ≤ 4000000 / (n : Int) := by
    intro h
    have h1 : (4000000 : Int) / (n : Int) ≥ 4000000 / 1000 := by
      apply Int.le_ediv_of_mul_le (by omega)
      have : (4000 : Int) * (n : Int) ≤ 4000 * 1000 := by omega
      simpa using this
    omega
  clear hn hm
  rcases Nat.eq_zero_or_pos n with h0 | h0
  case' inl => have hq' : decide (0 < n) = false := by simp; omega
  case' inr =>
    have hp : decide (0 < n) = true := by simp; omega
    have hnz : ¬ n = 0 := by omega
    have hnz2 : ((n : Int) == 0) = false := by simp; omega
    have hnz3 : ¬ (n : Int) = 0 := by omega
    have hq' : decide (4000000 / (n : Int) < (m : Int)) = false := by have := hq h0; simp; omega
  all_goals
    clear hq h0
    go_enter Try.func31, Try.ntmps31
    go_wp2_with fail
    refine FILL.out.mono ?_
    rintro e w1 ⟨gt, gc, cs, rfl, bt, bc, hcs, hgt, hgc, hb1⟩
    have lt1 := bt.lt
    have lt2 := bc.lt
    have lt3 := hb1.size
    have HCS := Lib.hid hcs
    clear hcs
    go_wp2_with fail
    have hst : St w n m 0 0 (w1.heap.size + 1) w1.heap.size gt gc la lb cs [] (.slice none 0 0) [] (w1.alloc (.cells #[.slice none 0 0] 25)) :=
      ⟨Blk.made _ _ _, EdsAt.none_ _ _, Small.nil _, rfl, by simp, bt.alloc _, bc.alloc _, bel_alloc hb1.size hb1⟩
    clear bt bc hb1
    generalize w1.heap.size = Bo at *
    go_loopw [9, 10] (fun i j wr => ∃ (I J : Nat) (es : List Ed) (v : Value) (rvs : List Value), I ≤ n ∧ J ≤ m ∧ i = .int .i64 I ∧ j = .int .i64 J ∧ St w n m I J (Bo + 1) Bo gt gc la lb cs es v rvs wr)
      (fun i j _ => (n - (intOf i).toNat) + (m - (intOf j).toNat))
    case atStart => exact ⟨0, 0, _, _, _, by omega, by omega, rfl, rfl, hst⟩
    case round =>
      clear hst
      obtain ⟨I, J, es, v, rvs, hI, hJ, rfl, rfl, st⟩ := hrel
      have hsm : Small 100000 es := st.small.mono (by omega)
      have hsz := st.size
      have hbel := st.bel.size
      have z0 : (0 : Int) ≤ (I : Int) := by omega
      have z1 : (0 : Int) ≤ (J : Int) := by omega
      by_cases hlI : I < n
      · obtain ⟨b, off, r, rfl, hbb, hr, c0, c1, c2, c3⟩ := Row.rec (ha.below st.bel) HN.out hlI
        have HR := Lib.hid hr
        clear hr
        have x2 : (I : Int) < (n : Int) := by omega
        by_cases hlJ : J < m
        · obtain ⟨b', off', r', rfl, hbb', hr', d0, d1, d2, d3⟩ := Row.rec (hb.below st.bel) HM.out hlJ
          have HR' := Lib.hid hr'
          clear hr'
          have hq := rec_eql
          have x4 : (J : Int) < (m : Int) := by omega
          have hne : ((J : Int) == (m : Int)) = false := by simp; omega
          cases hrr : recEq r r'
          · have hner := (recEq_false _ _).1 hrr
            have s2 := fun h => go_drop_step (es := es) HR.out HR'.out hner h
            have s3 := fun h => go_add_step (es := es) HR.out HR'.out hner h
            have q1 := HCS.out (I + 1) J (by omega) (by omega)
            have q2 := HCS.out I (J + 1) (by omega) (by omega)
            have i1 : (I + 1) * (m + 1) + J < (n + 1) * (m + 1) := idx_lt (by omega) (by omega)
            have i2 : I * (m + 1) + (J + 1) < (n + 1) * (m + 1) := idx_lt (by omega) (by omega)
            generalize lcs (la.drop (I + 1)) (lb.drop J) = l1 at *
            generalize lcs (la.drop I) (lb.drop (J + 1)) = l2 at *
            have C1 := Lib.hid (fun wx (h1 : Blk wx _ _ _) h2 => at_any wx gt gc ((I : Int) + 1) (J : Int) (I + 1) J (m + 1) _ l1 cs (by omega) rfl i1 hP h1 h2 q1)
            have C2 := Lib.hid (fun wx (h1 : Blk wx _ _ _) h2 => at_any wx gt gc (I : Int) ((J : Int) + 1) I (J + 1) (m + 1) _ l2 cs rfl (by omega) i2 hP h1 h2 q2)
            have S2 := Lib.hid s2
            have S3 := Lib.hid s3
            clear s2 s3 q1 q2 i1 i2 hner
            by_cases hle : l2 ≤ l1
            · go_wp2_with fail
              go_quiet (fail)
              go_wp2_with fail
              refine (C1.out _ (st.tab.drewN _) (st.cells.drewN _)).mono ?_
              rintro e w2 ⟨rfl, n1, rfl⟩
              go_wp2_with fail
              refine (C2.out _ (st.tab.drewN _) (st.cells.drewN _)).mono ?_
              rintro e w2 ⟨rfl, n2, rfl⟩
              go_wp2_with fail
              refine (add_any _ (Bo + 1) Bo v es rvs 2 none 0 0 [] (st.blk.drewN _) (st.eds.drewN _) (by omega) (by simpa using hsz) (src_nil _) (by omega) hsm).mono ?_
              rintro e w2 ⟨rfl, hadd⟩
              have hnx := st.next (below_drewN (Below.refl _ _) _) hadd (by simp) (by omega) (by omega) (by omega) (by omega) (I' := I + 1) (J' := J) (by omega) (S2.out hle)
              clear hadd st
              go_wp2_with fail
              go_roundw
              case rel =>
                go_light
                obtain ⟨es', v', rvs', hst⟩ := hnx
                exact ⟨I + 1, J, es', v', rvs', by omega, by omega, by go_num, rfl, hst⟩
              case measure => go_light; simp [intOf]; omega
            · go_wp2_with fail
              go_quiet (fail)
              go_wp2_with fail
              refine (C1.out _ (st.tab.drewN _) (st.cells.drewN _)).mono ?_
              rintro e w2 ⟨rfl, n1, rfl⟩
              go_wp2_with fail
              refine (C2.out _ (st.tab.drewN _) (st.cells.drewN _)).mono ?_
              rintro e w2 ⟨rfl, n2, rfl⟩
              go_wp2_with fail
              refine (add_any _ (Bo + 1) Bo v es rvs 3 _ 1 1 [r'] ((st.blk.drewN _).alloc _) ((st.eds.drewN _).alloc _) (by omega) (by simp; omega) (src_one _ r') (by omega) hsm).mono ?_
              rintro e w2 ⟨rfl, hadd⟩
              have hnx := st.next (bel_alloc0 (below_drewN (Below.refl _ _) _)) hadd (by simp) (by omega) (by omega) (by omega) (by omega) (I' := I) (J' := J + 1) (by omega) (S3.out hle)
              clear hadd st
              go_wp2_with fail
              go_roundw
              case rel =>
                go_light
                obtain ⟨es', v', rvs', hst⟩ := hnx
                exact ⟨I, J + 1, es', v', rvs', by omega, by omega, rfl, by go_num, hst⟩
              case measure => go_light; simp [intOf]; omega
          · go_wp2_with fail
            go_quiet (fail)
            go_wp2_with fail
            refine (add_any _ (Bo + 1) Bo v es rvs 1 none 0 0 [] (st.blk.drewN _) (st.eds.drewN _) (by omega) (by simpa using hsz) (src_nil _) (by omega) hsm).mono ?_
            rintro e w2 ⟨rfl, hadd⟩
            have e := (recEq_iff _ _).1 hrr
            have hr' := HR'.out
            rw [← e] at hr'
            have hnx := st.next (below_drewN (Below.refl _ _) _) hadd (by simp) (by omega) (by omega) (by omega) (by omega) (I' := I + 1) (J' := J + 1) (by omega) (go_keep_step HR.out hr')
            clear hadd st hr' e
            go_wp2_with fail
            go_roundw
            case rel =>
              go_light
              obtain ⟨es', v', rvs', hst⟩ := hnx
              exact ⟨I + 1, J + 1, es', v', rvs', by omega, by omega, by go_num, by go_num, hst⟩
            case measure => go_light; simp [intOf]; omega
        · have hJe : ((J : Int) == (m : Int)) = true := by simp; omega
          go_wp2_with fail
          go_quiet (fail)
          go_wp2_with fail
          refine (add_any _ (Bo + 1) Bo v es rvs 2 none 0 0 [] (st.blk.drewN _) (st.eds.drewN _) (by omega) (by simpa using hsz) (src_nil _) (by omega) hsm).mono ?_
          rintro e w2 ⟨rfl, hadd⟩
          have hnx := st.next (below_drewN (Below.refl _ _) _) hadd (by simp) (by omega) (by omega) (by omega) (by omega) (I' := I + 1) (J' := J) (by omega) (go_drop_end HR.out (by have := HM.out; omega))
          clear hadd st
          go_wp2_with fail
          go_roundw
          case rel =>
            go_light
            obtain ⟨es', v', rvs', hst⟩ := hnx
            exact ⟨I + 1, J, es', v', rvs', by omega, by omega, by go_num, rfl, hst⟩
          case measure => go_light; simp [intOf]; omega
      · by_cases hlJ : J < m
        · obtain ⟨b', off', r', rfl, hbb', hr', d0, d1, d2, d3⟩ := Row.rec (hb.below st.bel) HM.out hlJ
          have HR' := Lib.hid hr'
          clear hr'
          have x4 : (J : Int) < (m : Int) := by omega
          go_wp2_with fail
          go_quiet (fail)
          go_wp2_with fail
          refine (add_any _ (Bo + 1) Bo v es rvs 3 _ 1 1 [r'] ((st.blk.drewN _).alloc _) ((st.eds.drewN _).alloc _) (by omega) (by simp; omega) (src_one _ r') (by omega) hsm).mono ?_
          rintro e w2 ⟨rfl, hadd⟩
          have hnx := st.next (bel_alloc0 (below_drewN (Below.refl _ _) _)) hadd (by simp) (by omega) (by omega) (by omega) (by omega) (I' := I) (J' := J + 1) (by omega) (go_add_end (by have := HN.out; omega) HR'.out)
          clear hadd st
          go_wp2_with fail
          go_roundw
          case rel =>
            go_light
            obtain ⟨es', v', rvs', hst⟩ := hnx
            exact ⟨I, J + 1, es', v', rvs', by omega, by omega, rfl, by go_num, hst⟩
          case measure => go_light; simp [intOf]; omega
        · obtain ⟨vA, vc, rfl⟩ := own_shape st.eds.own
          have b0 := st.blk.cell 0
          simp at b0
          go_wp2_with fail
          refine bodyPost_ret (v := .tuple #[.slice vA es.length vc, .int .i64 0]) (by simp [results, Try.results31, go_sem]) rfl ⟨_, rvs, rfl, ?_, st.bel⟩
          have hg := st.go
          rw [go_end (by have := HN.out; omega) (by have := HM.out; omega)] at hg
          rw [← hg]
          exact st.eds.mono (by omega)
end Go.Proofs.Ytdfpcnldfibceaa.Diff
