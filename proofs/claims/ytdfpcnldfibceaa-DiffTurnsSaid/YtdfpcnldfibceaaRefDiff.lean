/-
  The walk of the reference's Diff.
-/
import Derived.Test.YtdfpcnldfibceaaDiffWalk
import Derived.Test.YtdfpcnldfibceaaDiffCommon
import Derived.Test.YtdfpcnldfibceaaSameEds
import Derived.Deep.DeepCutAuto
import Derived.Deep.LoopGhost
import Derived.Deep.RegionHeld3
import Derived.Deep.AppendLies
import Derived.Deep.RegionLaw
namespace Go.Proofs.Ytdfpcnldfibceaa.Diff
open Go.RowKit Go.Proofs.Ytdfpcnldfibceaa.Mem Go.Proofs.Ytdfpcnldfibceaa.Recs

/-- The kind of the next step. -/
def KStep (la lb : List Rec) (I J : Nat) (kind : Int) : Prop :=
  (kind = 1 ∧ I < la.length ∧ J < lb.length ∧ ∀ es, diffGo (la.drop I) (lb.drop J) es = diffGo (la.drop (I + 1)) (lb.drop (J + 1)) (addE es 1 [])) ∨
  (kind = 2 ∧ I < la.length ∧ ∀ es, diffGo (la.drop I) (lb.drop J) es = diffGo (la.drop (I + 1)) (lb.drop J) (addE es 2 [])) ∨
  (kind = 3 ∧ J < lb.length ∧ ∀ es r, lb[J]? = some r → diffGo (la.drop I) (lb.drop J) es = diffGo (la.drop I) (lb.drop (J + 1)) (addE es 3 [r]))

theorem slice_rec (A : Option Addr) (len cap : Nat) (l : Int) (k : Nat) (hl : l = k) (hk : k ≤ len) (w : World) :
    (Instr.slice 22 (.slice A len cap) (some (.int .i64 l)) none none).run Try.prog w = .ok (.slice (cutA A k cap 4) (len - k) (cap - k)) w :=
  run_cut Try.underlying22 Try.sizeOf91 A len cap .i64 l k hl hk w
theorem recF_drop (l : List Rec) (k i j : Nat) : recF l (k + i) j = recF (l.drop k) i j := by
  unfold recF
  simp only [List.getD_eq_getElem?_getD, List.getElem?_drop]

theorem EdsAt.drew {w : World} {base : Nat} {v : Value} {es : List Ed} {rvs : List Value} (h : EdsAt w base v es rvs) : EdsAt w.drew base v es rvs := h.kept (fun _ _ => rfl) (fun _ _ _ _ => rfl)
theorem Drawn.bel {w w' : World} (h : Drawn w w') : Below w.heap.size w w' := by
  obtain ⟨q, rfl⟩ := h
  exact below_drewN (Below.refl _ _) _

structure Rt (w : World) (n m I J : Nat) (la lb : List Rec) (es : List Ed) (v : Value) (rvs : List Value) (wr : World) : Prop where
  eds : EdsAt wr w.heap.size v es rvs
  small : Small (I + J) es
  go : diffGo (la.drop I) (lb.drop J) es = diffL la lb
  bel : Below w.heap.size w wr

def RefPost (la lb : List Rec) (w : World) (e : Ending) (w' : World) : Prop :=
  ∃ v rvs, e = .returned v ∧ EdsAt w' w.heap.size v (diffL la lb) rvs ∧ Below w.heap.size w w'

/-- The last edit is of this kind, and done with the rest it is what is wanted. -/
def MidR (w : World) (es : List Ed) (kind : Int) (v : Value) (wx : World) : Prop :=
  ∃ (g cap k : Nat) (ini : List Ed) (e : Ed) (ri : List Value) (rv : Value), ini.length = k ∧ v = .slice (some ⟨g, 0, none⟩) (k + 1) cap ∧ EdsAt wx w.heap.size (.slice (some ⟨g, 0, none⟩) (k + 1) cap) (ini ++ [e]) (ri ++ [rv]) ∧
    Below w.heap.size w wx ∧ (∀ l, addE es kind l = ini ++ [⟨kind, if kind = 3 then e.n else e.n + 1, e.recs ++ l⟩]) ∧ e.kind = kind ∧ k ≤ 100000 ∧ (0 ≤ e.n ∧ e.n ≤ 100000) ∧ e.recs.length ≤ 100000
theorem midR_new {w wc w1 : World} {v : Value} {es : List Ed} {rvs : List Value} {kind : Int} {g1 cap1 : Nat} (hE : EdsAt wc w.heap.size v es rvs) (hbel : Below w.heap.size w wc) (hl : lastIs es kind = false) (hn2 : es.length ≤ 100000)
    (hown1 : w1.ownsRow w.heap.size 116 3 (.slice (some ⟨g1, 0, none⟩) (es.length + 1) cap1) (es.length + 1) (edCells es rvs ++ [.int .i64 kind, .int .i64 0, .slice none 0 0]))
    (hg1 : (wc.alloc (.cells #[.int .i64 kind, .int .i64 0, .slice none 0 0] 116)).grownBy w1 v.ownBlock) : MidR w es kind (.slice (some ⟨g1, 0, none⟩) (es.length + 1) cap1) w1 := by
  refine ⟨g1, cap1, es.length, es, ⟨kind, 0, []⟩, rvs, .slice none 0 0, rfl, rfl, (hE.alloc _).push hown1 hg1, ?_, fun l => addE_new es kind l hl, rfl, hn2, by simp, by simp⟩
  exact (bel_alloc hbel.size hbel).grown hg1 (Nat.le_trans hbel.size (by simp)) (fun k hk => (hE.lt.1 k hk).1)
theorem midR_old {w wc : World} {A : Option Addr} {c n : Nat} {es : List Ed} {rvs : List Value} {kind : Int} (hE : EdsAt wc w.heap.size (.slice A n c) es rvs) (hn : es.length = n) (hbel : Below w.heap.size w wc) (hl : lastIs es kind = true) (hsm : Small 100000 es) :
    MidR w es kind (.slice A n c) wc := by
  rcases lastIs_cases es kind with h | ⟨ini, e, rfl, hk⟩
  · rw [h] at hl; cases hl
  · obtain ⟨ri, rv, hrv, hri⟩ := edCells_last (es := ini) (e := e) hE.len
    subst hrv
    have hln : n = ini.length + 1 := by rw [← hn]; simp
    subst hln
    have h0 := hE.own
    rw [hn] at h0
    obtain ⟨g, cap, hsh⟩ := own_shape1 h0
    injection hsh with e1 e2 e3
    subst e1
    have hb := hsm.2 e (by simp)
    have h1 := hsm.1
    exact ⟨g, c, ini.length, ini, e, ri, rv, rfl, rfl, hE, hbel, fun l => addE_same ini e kind l hk, hk, by omega, by omega, hb.2⟩

theorem Rt.next {w w' : World} {n m I J I' J' : Nat} {la lb : List Rec} {es : List Ed} {v v' : Value} {rvs rvs' : List Value} {wr : World} {kind : Int} {l : List Rec} (h : Rt w n m I J la lb es v rvs wr)
    (hE : EdsAt w' w.heap.size v' (addE es kind l) rvs') (hbel : Below w.heap.size w w') (hl : l.length ≤ 1) (hIJ : I + J + 1 ≤ I' + J')
    (hgo : diffGo (la.drop I) (lb.drop J) es = diffGo (la.drop I') (lb.drop J') (addE es kind l)) : Rt w n m I' J' la lb (addE es kind l) v' rvs' w' :=
  ⟨hE, (h.small.add kind l hl).mono hIJ, by rw [← hgo]; exact h.go, hbel⟩

theorem midR_finN {wx : World} {base gg cp k : Nat} {es ini : List Ed} {e : Ed} {ri : List Value} {rv : Value} {kind en : Int} (hE : EdsAt wx base (.slice (some ⟨gg, 0, none⟩) (k + 1) cp) (ini ++ [e]) (ri ++ [rv])) (hk : ini.length = k)
    (hadd : ∀ l, addE es kind l = ini ++ [⟨kind, if kind = 3 then e.n else e.n + 1, e.recs ++ l⟩]) (hek : e.kind = kind) (hen : e.n = en) (h3 : kind ≠ 3) :
    EdsAt (wx.setCell ⟨gg, k * 3 + 1, none⟩ (.int .i64 (en + 1))) base (.slice (some ⟨gg, 0, none⟩) (k + 1) cp) (addE es kind []) (ri ++ [rv]) := by
  subst hk hen
  have h := hE.setN (n := e.n + 1)
  rw [hadd, if_neg h3, List.append_nil, ← hek]
  exact h
theorem midR_fin3 {wx w1 : World} {base gg cp k n1 : Nat} {es ini : List Ed} {e : Ed} {ri : List Value} {rv rv' : Value} {r : Rec} (hE : EdsAt wx base (.slice (some ⟨gg, 0, none⟩) (k + 1) cp) (ini ++ [e]) (ri ++ [rv])) (hk : ini.length = k)
    (hadd : ∀ l, addE es 3 l = ini ++ [⟨3, if (3 : Int) = 3 then e.n else e.n + 1, e.recs ++ l⟩]) (hek : e.kind = 3)
    (hown : w1.ownsRow base 91 4 rv' n1 (recsCells e.recs ++ recsCells [r])) (hn1 : n1 = e.recs.length + 1) (hg : wx.grownBy w1 rv.ownBlock)
    (hap : rv'.ownBlock = rv.ownBlock ∨ rv'.ownBlock = some wx.heap.size) :
    EdsAt (w1.setCell ⟨gg, k * 3 + 2, none⟩ rv') base (.slice (some ⟨gg, 0, none⟩) (k + 1) cp) (addE es 3 [r]) (ri ++ [rv']) := by
  subst hk hn1
  have h := hE.setRecs (l := [r]) hown hg hap
  rw [hadd, if_pos rfl, ← hek]
  exact h

set_option maxHeartbeats 4000000 in
set_option maxRecDepth 100000 in
theorem refdiff_any (w : World) (A B : Option Addr) (n m c d : Nat) (la lb : List Rec) (hn : la.length = n) (hm : lb.length = m) (hN : n ≤ 1000) (hM : m ≤ 1000) (hc : n ≤ c) (hd : m ≤ d)
    (ha : Row w w.heap.size A n 4 (recF la)) (hb : Row w w.heap.size B m 4 (recF lb)) :
    Calls Try.prog 33 #[.slice A n c, .slice B m d] w (RefPost la lb w) := by
  obtain ⟨i0, hi0, hz0, hz1, hz2⟩ := info_parts info_edit
  obtain ⟨j0, hj0, hy0, hy1, hy2⟩ := info_parts info_rec
  have HN := Lib.hid hn
  have HM := Lib.hid hm
  clear hn hm
  go_enter Try.func33, Try.ntmps33
  go_wp2_with fail
  go_loopg [5, 6, 7] (n + m) (fun q out i j wr => ∃ (I J : Nat) (es : List Ed) (rvs : List Value), I ≤ n ∧ J ≤ m ∧ n + m ≤ q + I + J ∧ i = .int .i64 I ∧ j = .int .i64 J ∧ Rt w n m I J la lb es out rvs wr)
  case atStart => exact ⟨0, 0, _, _, by omega, by omega, by omega, rfl, rfl, EdsAt.none_ _ _, Small.nil _, rfl, Below.refl _ _⟩
  case round =>
    obtain ⟨I, J, es, rvs, hI, hJ, hq, rfl, rfl, st⟩ := hrel
    have hsm : Small 100000 es := st.small.mono (by omega)
    have hbel := st.bel.size
    have z0 : (0 : Int) ≤ (I : Int) := by omega
    have z1 : (0 : Int) ≤ (J : Int) := by omega
    by_cases hIJ : I < n ∨ J < m
    · go_upto_region 3 with fail
      go_cut [19] (fun s wx => s = .bool true ∧ wr = wx)
      case first =>
        rcases hIJ with h | h
        all_goals
          go_wp2_with fail
          all_goals
            go_meet
            case rel => exact ⟨rfl, rfl⟩
      case rest =>
        obtain ⟨rfl, rfl⟩ := hcut
        go_upto_region 5 with fail
        go_cut [40] (fun s wx => ∃ kb : Bool, s = .bool kb ∧ (kb = true → KStep la lb I J 1) ∧ (kb = false → ¬ ∃ r, la[I]? = some r ∧ lb[J]? = some r) ∧ Drawn wr wx)
        case first =>
          by_cases hlI : I < n
          · obtain ⟨b, off, r, rfl, hbb, hr, c0, c1, c2, c3⟩ := Row.rec (ha.below st.bel) HN.out hlI
            have HR := Lib.hid hr
            clear hr
            have x2 : (I : Int) < (n : Int) := by omega
            by_cases hlJ : J < m
            · obtain ⟨b', off', r', rfl, hbb', hr', d0, d1, d2, d3⟩ := Row.rec (hb.below st.bel) HM.out hlJ
              have HR' := Lib.hid hr'
              clear hr'
              have hq := rec_eql
              have x4 : (J : Int) < (m : Int) := by omega
              go_quiet (fail)
              go_wp2_with fail
              go_meet
              case rel =>
                go_light
                refine ⟨recEq r r', rfl, fun h => ?_, fun h => ?_, (Drawn.refl _).drewN _⟩
                · have e := (recEq_iff _ _).1 h
                  have hr' := HR'.out
                  rw [← e] at hr'
                  exact .inl ⟨rfl, by have := HN.out; omega, by have := HM.out; omega, fun es => go_keep_step HR.out hr'⟩
                · rintro ⟨r0, e1, e2⟩
                  have h1 := HR.out
                  have h2 := HR'.out
                  rw [e1] at h1
                  rw [e2] at h2
                  injection h1 with h1
                  injection h2 with h2
                  exact (recEq_false _ _).1 h (by rw [← h1, ← h2])
            · go_quiet (fail)
              go_wp2_with fail
              go_meet
              case rel =>
                go_light
                refine ⟨false, rfl, (fun h => by cases h), fun h => ?_, (Drawn.refl _).drewN _⟩
                rintro ⟨r0, e1, e2⟩
                have := (List.getElem?_eq_some_iff.1 e2).1
                have := HM.out
                omega
          · go_quiet (fail)
            go_wp2_with fail
            go_meet
            case rel =>
              go_light
              refine ⟨false, rfl, (fun h => by cases h), fun h => ?_, (Drawn.refl _).drewN _⟩
              rintro ⟨r0, e1, e2⟩
              have := (List.getElem?_eq_some_iff.1 e1).1
              have := HN.out
              omega
        case rest =>
          obtain ⟨kb, rfl, hk1, hk2, hdr⟩ := hcut
          go_upto_if 40 with fail
          go_cut [8] (fun s wx => ∃ kind : Int, s = .int .i64 kind ∧ KStep la lb I J kind ∧ Below wr.heap.size wr wx)
          case first =>
            cases kb
            · have hne := hk2 rfl
              by_cases hlI : I < n
              · by_cases hlJ : J < m
                · have hJe : ((J : Int) == (m : Int)) = false := by simp; omega
                  obtain ⟨x, r0⟩ : ∃ x, la[I]? = some x := ⟨la[I]'(by have := HN.out; omega), List.getElem?_eq_getElem _⟩
                  obtain ⟨y, r1⟩ : ∃ y, lb[J]? = some y := ⟨lb[J]'(by have := HM.out; omega), List.getElem?_eq_getElem _⟩
                  have hner : x ≠ y := fun e => hne ⟨_, r0, by rw [r1, e]⟩
                  have s2 := fun h (es : List Ed) => go_drop_step (es := es) r0 r1 hner h
                  have s3 := fun h (es : List Ed) => go_add_step (es := es) r0 r1 hner h
                  have C1 := Lib.hid (fun wx (h : Below wr.heap.size wr wx) => common_any wx (cutA A (I + 1) c 4) (cutA B J d 4) (n - (I + 1)) (m - J) (c - (I + 1)) (d - J) (la.drop (I + 1)) (lb.drop J)
                    (by rw [List.length_drop, HN.out]) (by rw [List.length_drop, HM.out]) (by omega) (by omega)
                    (((((ha.below st.bel).mono hbel).below h).mono h.size).cut _ _ (by omega) hc (fun i j _ _ => recF_drop _ _ _ _)) (((((hb.below st.bel).mono hbel).below h).mono h.size).cut _ _ (by omega) hd (fun i j _ _ => recF_drop _ _ _ _)))
                  have C2 := Lib.hid (fun wx (h : Below wr.heap.size wr wx) => common_any wx (cutA A I c 4) (cutA B (J + 1) d 4) (n - I) (m - (J + 1)) (c - I) (d - (J + 1)) (la.drop I) (lb.drop (J + 1))
                    (by rw [List.length_drop, HN.out]) (by rw [List.length_drop, HM.out]) (by omega) (by omega)
                    (((((ha.below st.bel).mono hbel).below h).mono h.size).cut _ _ (by omega) hc (fun i j _ _ => recF_drop _ _ _ _)) (((((hb.below st.bel).mono hbel).below h).mono h.size).cut _ _ (by omega) hd (fun i j _ _ => recF_drop _ _ _ _)))
                  have l1b := lcs_le_left (la.drop (I + 1)) (lb.drop J)
                  have l2b := lcs_le_left (la.drop I) (lb.drop (J + 1))
                  rw [List.length_drop, HN.out] at l1b l2b
                  generalize lcs (la.drop (I + 1)) (lb.drop J) = l1 at *
                  generalize lcs (la.drop I) (lb.drop (J + 1)) = l2 at *
                  have S2 := Lib.hid s2
                  have S3 := Lib.hid s3
                  have HR1 := Lib.hid r1
                  clear s2 s3 r0 r1 hner hne
                  have p1 := slice_rec A n c ((I : Int) + 1) (I + 1) (by omega) (by omega)
                  have p2 := slice_rec A n c (I : Int) I (by omega) (by omega)
                  have p3 := slice_rec B m d ((J : Int) + 1) (J + 1) (by omega) (by omega)
                  have p4 := slice_rec B m d (J : Int) J (by omega) (by omega)
                  go_upto_region 7 with fail
                  go_cut [69] (fun s wx => ∃ kb2 : Bool, s = .bool kb2 ∧ (kb2 = true → KStep la lb I J 2) ∧ (kb2 = false → KStep la lb I J 3) ∧ Below wr.heap.size wr wx)
                  case first =>
                    have hbc : Below wr.heap.size wr wc := hdr.bel
                    have hs1 : IntKind.i64.wrap ((I : Int) + 1) = (I : Int) + 1 := IntWalk.i64_in _ (by omega)
                    have hs2 : IntKind.i64.wrap ((J : Int) + 1) = (J : Int) + 1 := IntWalk.i64_in _ (by omega)
                    by_cases hle : l2 ≤ l1
                    all_goals
                      go_region_held3 (fun _ => True) (trivial) ((go_at_call 90; first | ((with_reducible refine (C1.out _ (by (repeat (first | (with_reducible exact Below.refl _ _) | (with_reducible assumption) | (with_reducible refine Below.drew ?_) | (with_reducible refine below_drewN ?_ _) | ((with_reducible refine bel_set ?_ ?_); (focus (first | (simp; done) | (simp; omega) | omega | (simp at *; omega)))) | (with_reducible refine bel_alloc0 ?_) | (with_reducible refine bel_step0 (by assumption) ?_) | ((with_reducible refine bel_alloc ?_ ?_); (focus (first | (simp; done) | (simp; omega) | omega | (simp at *; omega)))) | ((with_reducible refine bel_step (by assumption) ?_ ?_); (focus (first | (simp; done) | (simp; omega) | omega | (simp at *; omega)))))))).mono ?_); rintro e w' ⟨rfl, hb1⟩) | ((with_reducible refine (C2.out _ (by (repeat (first | (with_reducible exact Below.refl _ _) | (with_reducible assumption) | (with_reducible refine Below.drew ?_) | (with_reducible refine below_drewN ?_ _) | ((with_reducible refine bel_set ?_ ?_); (focus (first | (simp; done) | (simp; omega) | omega | (simp at *; omega)))) | (with_reducible refine bel_alloc0 ?_) | (with_reducible refine bel_step0 (by assumption) ?_) | ((with_reducible refine bel_alloc ?_ ?_); (focus (first | (simp; done) | (simp; omega) | omega | (simp at *; omega)))) | ((with_reducible refine bel_step (by assumption) ?_ ?_); (focus (first | (simp; done) | (simp; omega) | omega | (simp at *; omega)))))))).mono ?_); rintro e w' ⟨rfl, hb2⟩)))
                      clear hs1 hs2
                      go_wp2_with fail
                      go_meet
                      case rel =>
                        go_light
                        first
                        | exact ⟨true, rfl, (fun _ => .inr (.inl ⟨rfl, by have := HN.out; omega, fun es => S2.out hle es⟩)), (fun h => by cases h), by (repeat (first | (with_reducible exact Below.refl _ _) | (with_reducible assumption) | (with_reducible refine Below.drew ?_) | (with_reducible refine below_drewN ?_ _) | ((with_reducible refine bel_set ?_ ?_); (focus (first | (simp; done) | (simp; omega) | omega | (simp at *; omega)))) | (with_reducible refine bel_alloc0 ?_) | (with_reducible refine bel_step0 (by assumption) ?_) | ((with_reducible refine bel_alloc ?_ ?_); (focus (first | (simp; done) | (simp; omega) | omega | (simp at *; omega)))) | ((with_reducible refine bel_step (by assumption) ?_ ?_); (focus (first | (simp; done) | (simp; omega) | omega | (simp at *; omega))))))⟩
                        | exact ⟨false, rfl, (fun h => by cases h), (fun _ => .inr (.inr ⟨rfl, by have := HM.out; omega, fun es r hr => by have e := HR1.out; rw [hr] at e; injection e with e; rw [e]; exact S3.out hle es⟩)), by (repeat (first | (with_reducible exact Below.refl _ _) | (with_reducible assumption) | (with_reducible refine Below.drew ?_) | (with_reducible refine below_drewN ?_ _) | ((with_reducible refine bel_set ?_ ?_); (focus (first | (simp; done) | (simp; omega) | omega | (simp at *; omega)))) | (with_reducible refine bel_alloc0 ?_) | (with_reducible refine bel_step0 (by assumption) ?_) | ((with_reducible refine bel_alloc ?_ ?_); (focus (first | (simp; done) | (simp; omega) | omega | (simp at *; omega)))) | ((with_reducible refine bel_step (by assumption) ?_ ?_); (focus (first | (simp; done) | (simp; omega) | omega | (simp at *; omega))))))⟩
                  case rest =>
                    clear p1 p2 p3 p4 C1 C2 S2 S3
                    obtain ⟨kb2, rfl, hj1, hj2, hbw⟩ := hcut
                    cases kb2
                    · have hk := hj2 rfl
                      go_wp2_with fail
                      go_meet
                      case rel => exact ⟨3, rfl, hk, hbw⟩
                    · have hk := hj1 rfl
                      go_wp2_with fail
                      go_meet
                      case rel => exact ⟨2, rfl, hk, hbw⟩
                · have hJe : ((J : Int) == (m : Int)) = true := by simp; omega
                  obtain ⟨x, r0⟩ : ∃ x, la[I]? = some x := ⟨la[I]'(by have := HN.out; omega), List.getElem?_eq_getElem _⟩
                  have hk : KStep la lb I J 2 := .inr (.inl ⟨rfl, by have := HN.out; omega, fun es => go_drop_end r0 (by have := HM.out; omega)⟩)
                  have HK := Lib.hid hk
                  clear hk r0 hne
                  go_wp2_with fail
                  go_quiet (fail)
                  go_wp2_with fail
                  go_meet
                  case rel => exact ⟨2, rfl, HK.out, below_drewN hdr.bel _⟩
              · have hk : KStep la lb I J 3 := .inr (.inr ⟨rfl, by have := HM.out; omega, fun es r hr => go_add_end (by have := HN.out; omega) hr⟩)
                have HK := Lib.hid hk
                clear hk hne
                go_wp2_with fail
                go_quiet (fail)
                go_wp2_with fail
                go_meet
                case rel => exact ⟨3, rfl, HK.out, below_drewN hdr.bel _⟩
            · have hk := hk1 rfl
              go_wp2_with fail
              go_meet
              case rel => exact ⟨1, rfl, hk, by obtain ⟨q, e⟩ := hdr; rw [e]; exact below_drewN (Below.refl _ _) _⟩
          case rest =>
            clear hk1 hk2 hdr
            obtain ⟨kind, rfl, hks, hbw⟩ := hcut
            obtain ⟨A0, cap0, rfl⟩ := own_shape st.eds.own
            have hEc : EdsAt wc w.heap.size (.slice A0 es.length cap0) es rvs := st.eds.step hbw
            have hbelc : Below w.heap.size w wc := bel_step hbw hbel st.bel
            have hszc := hbelc.size
            have hsb := hsm.1
            generalize hlen : es.length = ln at *
            have HLEN := Lib.hid hlen
            clear hlen
            go_upto_region 9 with fail
            go_cut [83] (fun s wx => s = .bool (!lastIs es kind) ∧ wc = wx)
            case first =>
              rcases List.eq_nil_or_concat es with hes | ⟨ini, e, hes⟩
              · subst hes
                have : ln = 0 := HLEN.out.symm
                subst this
                go_wp2_with fail
                go_meet
                case rel => exact ⟨rfl, rfl⟩
              · rw [List.concat_eq_append] at hes
                subst hes
                obtain ⟨k, hk⟩ : ∃ k, k = ini.length := ⟨_, rfl⟩
                have hlk : ln = k + 1 := by rw [← HLEN.out, hk]; simp
                subst hlk
                obtain ⟨ri, rv, hrv, hri⟩ := edCells_last (es := ini) (e := e) hEc.len
                subst hrv
                have hsh : ∃ g cap, Value.slice A0 (k + 1) cap0 = .slice (some ⟨g, 0, none⟩) (k + 1) cap := by
                  have h0 := hEc.own
                  rw [HLEN.out] at h0
                  exact own_shape1 h0
                obtain ⟨g, cap, hsh⟩ := hsh
                injection hsh with e1 e2 e3
                subst e1
                clear e2 e3
                have k0 := hEc
                rw [hk] at k0
                have k0 := k0.lastCells.1
                rw [← hk] at k0
                have hl : lastIs (ini ++ [e]) kind = decide (e.kind = kind) := lastIs_snoc ini e kind
                generalize e.kind = ek at k0 hl
                have HL := Lib.hid hl
                have x1 : (0 : Int) ≤ (k : Int) := by omega
                clear hk hl
                by_cases hkk : ek = kind
                · subst hkk
                  go_wp2_with fail
                  go_meet
                  case rel => go_light; exact ⟨by rw [HL.out]; simp, rfl⟩
                · have hkb : (ek != kind) = true := by simp [hkk]
                  go_wp2_with fail
                  go_meet
                  case rel => go_light; exact ⟨by rw [HL.out]; simp [hkk], rfl⟩
            case rest =>
              obtain ⟨rfl, rfl⟩ := hcut
              have hsb2 := hsm.1
              go_upto_if 83 with fail
              go_cut [5] (fun v wx => MidR w es kind v wx)
              case first =>
                cases hlast : lastIs es kind
                · have HLAST := Lib.hid hlast
                  clear hlast
                  go_wp2_with (at_builtin; refine wpList_app rfl (.tmp 84) (.tmp 87) 25 rfl w.heap.size 116 i0 _ 3 40 Try.underlying25 hi0 hz0 hz1 hz2 rfl (by decide) _ _ _ (by rfl) (hEc.alloc _).own _ _ _ [.int .i64 kind, .int .i64 0, .slice none 0 0] (by rfl) (Src.of_blk (Blk.made _ _ _) 1 1 3 rfl) (ed_one kind) (by unfold maxLen; omega) (by omega) (by simp; omega) ?_; intro v1 w1 hown1 hg1 hat1; obtain ⟨g1, cap1, rfl⟩ := own_shape1 hown1)
                  go_meet
                  case rel => exact midR_new hEc hbelc HLAST.out hsb2 hown1 hg1
                · have HLAST := Lib.hid hlast
                  clear hlast
                  go_wp2_with fail
                  go_meet
                  case rel => exact midR_old hEc HLEN.out hbelc HLAST.out hsm
              case rest =>
                clear hEc hbelc hszc hbw hsb hsb2
                obtain ⟨gg, cp, k, in2, e2, ri2, rv2, hk2, rfl, mE, mB, madd, mek, mk, mn, mr⟩ := hcut
                obtain ⟨A2, cp2, rfl⟩ := own_shape mE.lastRecs
                have m1 := mE
                rw [← hk2] at m1
                have m2 := m1.lastCells.2.1
                have m3 := m1.lastCells.2.2
                have m4 := m1.lastFree (by simp)
                rw [hk2] at m2 m3
                have mlt := (mE.lt.1 gg rfl).2
                have f1 := m4 (k * 3 + 1)
                have f2 := m4 (k * 3 + 2)
                have x1 : (0 : Int) ≤ (k : Int) := by omega
                have hzc := mB.size
                generalize hen : e2.n = en at m2 mn
                have HEN := Lib.hid hen
                have HK := Lib.hid hk2
                clear m1 m4 hen hk2
                rcases hks with ⟨rfl, h1, h2, hgo⟩ | ⟨rfl, h1, hgo⟩ | ⟨rfl, h2, hgo⟩
                · have hgo' := Lib.hid (hgo es)
                  clear hgo
                  rw [HN.out] at h1
                  rw [HM.out] at h2
                  go_wp2_with fail
                  go_roundg (gk - 1)
                  case measure => go_light; omega
                  case rel =>
                    go_light
                    exact ⟨I + 1, J + 1, _, _, by omega, by omega, by omega, by go_num, by go_num, st.next (l := []) (midR_finN mE HK.out madd mek HEN.out (by omega)) (bel_set (p := ⟨gg, k * 3 + 1, none⟩) (mE.lt.1 gg rfl).1 mB) (by simp) (by omega) hgo'.out⟩
                · have hgo' := Lib.hid (hgo es)
                  clear hgo
                  rw [HN.out] at h1
                  go_wp2_with fail
                  go_roundg (gk - 1)
                  case measure => go_light; omega
                  case rel =>
                    go_light
                    exact ⟨I + 1, J, _, _, by omega, by omega, by omega, by go_num, rfl, st.next (l := []) (midR_finN mE HK.out madd mek HEN.out (by omega)) (bel_set (p := ⟨gg, k * 3 + 1, none⟩) (mE.lt.1 gg rfl).1 mB) (by simp) (by omega) hgo'.out⟩
                · rw [HM.out] at h2
                  obtain ⟨b', off', r, rfl, hbb', hr', d0, d1, d2, d3⟩ := Row.rec (hb.below mB) HM.out h2
                  have hgo' := Lib.hid (hgo es r hr')
                  obtain ⟨q, hq⟩ : ∃ q, q = e2.recs.length := ⟨_, rfl⟩
                  have mown := mE.lastRecs
                  unfold OwnsRecs at mown
                  rw [← hq] at m3 mown mr
                  have HQ := Lib.hid hq
                  have mne : some gg ≠ Value.ownBlock (.slice A2 q cp2) := by
                    intro h
                    rcases own_apart mown mE.own (by decide) with h0 | h0
                    · rw [h0] at h; cases h
                    · exact h0 h.symm
                  have mnb : some b' ≠ Value.ownBlock (.slice A2 q cp2) := by
                    intro h
                    have := (World.ownsRow.lt mown b' h.symm).1
                    omega
                  clear hgo hr' hq
                  have x2 : (0 : Int) ≤ (J : Int) := by omega
                  have x3 : (J : Int) < (m : Int) := by omega
                  have x4 : (k : Int) < (k : Int) + 1 := by omega
                  go_upto_region 13 with fail
                  go_region_law ((refine step_append_lies _ (by rfl) _ _ _ (by rfl) w.heap.size 91 j0 _ 4 48 Try.underlying22 hj0 hy0 hy1 hy2 rfl (by omega) (.slice A2 q cp2) q (recsCells e2.recs) (by rfl) ((mown.alloc _).drew) ⟨wc.heap.size, 0, none⟩ 1 1 (recsCells [r]) (by rfl) (by rfl) (World.news_of_block (cs := #[.int .u64 r.time, .int .u8 r.level, .string r.source, .string r.text]) (t := 91) (fr := (0, 0)) (heap_alloc_new wc _)) (recsCells_one [r]) (by omega) (by unfold maxLen; omega) (by omega) (by simp; omega) (wc.heap.size + 1) (by simp) ?_; intro g3 cap3 w3 hown3 hgrow hat hlt3; have gb : w3.heap[gg]? = wc.heap[gg]? := (hgrow.block gg (by simp; omega) mne).trans (Below.heap_alloc wc _ gg mlt); have p3 := (World.cell?_of_block (a := ⟨gg, k * 3 + 2, none⟩) gb).trans m3; have p4 := (World.frozen?_of_block (a := ⟨gg, k * 3 + 2, none⟩) gb).trans f2))
                  all_goals
                    go_wp2_with fail
                    go_roundg (gk - 1)
                    case measure => go_light; omega
                    case rel =>
                      go_light
                      have hq := HQ.out
                      subst hq
                      have hb3 : Below w.heap.size w w3 := ((bel_alloc hzc mB).drew).grown hgrow (by simp; omega) (fun x hx => ((World.ownsRow.lt mown x hx).1))
                      refine ⟨I, J + 1, _, _, by omega, by omega, by omega, rfl, by go_num, st.next (l := [r]) (midR_fin3 (mE.alloc _).drew HK.out madd mek hown3 rfl hgrow ?_) (bel_set (p := ⟨gg, k * 3 + 2, none⟩) (mE.lt.1 gg rfl).1 hb3) (by simp) (by omega) hgo'.out⟩
                      rcases hat with h | h
                      · exact .inl h.symm
                      · exact .inr (by rw [h]; simp [Value.ownBlock])
    · have hn0 : ¬ I < n := by omega
      have hm0 : ¬ J < m := by omega
      go_wp2_with fail
      go_ret
      have hg := st.go
      rw [go_end (by have := HN.out; omega) (by have := HM.out; omega)] at hg
      refine ⟨_, rvs, rfl, ?_, st.bel⟩
      rw [← hg]
      exact st.eds
end Go.Proofs.Ytdfpcnldfibceaa.Diff
