/-
  The walk of the reference's Coder.Get.
-/
import Derived.Test.YtdfpcnldfibceaaRefRead
import Derived.Test.YtdfpcnldfibceaaRefNew
import Derived.Test.YtdfpcnldfibceaaHuffGet2
namespace Go.Proofs.Ytdfpcnldfibceaa.Huff
open Go.RowKit Go.Proofs.Ytdfpcnldfibceaa.Mem Go.Proofs.Ytdfpcnldfibceaa.Canon Go.Proofs.Ytdfpcnldfibceaa.Own

theorem any_snoc (p : Nat → Bool) (s : Nat) : (List.range (s + 1)).any p = ((List.range s).any p || p s) := by
  rw [List.range_succ, List.any_append]
  simp
def RGetPost (ls : List Nat) (bs : List Bool) (at_ g hi : Nat) (w : World) (e : Ending) (w' : World) : Prop :=
  e = .returned (.tuple #[.int .i64 (getR ls (head bs at_) (there bs at_)).1, .int .i64 (getR ls (head bs at_) (there bs at_)).2.1]) ∧
    RRd w' g hi bs (at_ + (getR ls (head bs at_) (there bs at_)).2.2) ∧ Kept (fun x => x < w.heap.size ∧ x ≠ g) w w'
theorem accB_head (bs : List Bool) (at_ x : Nat) (hx : x ≤ 15) : accB bs at_ x = head bs at_ / 2 ^ (15 - x) := by
  have h := accB_div bs at_ x (15 - x)
  rw [show x + (15 - x) = 15 by omega] at h
  exact h.symm
theorem getR_hits {ls : List Nat} (hok : okB ls = true) {X th s x cd : Nat} (hx : ls[s]? = some x) (h0 : x ≠ 0) (hth : x ≤ th) (hcd : code ls s = cd) (h : X / 2 ^ (15 - x) = cd) : getR ls X th = ((s : Int), 0, x) :=
  getR_hit hok hx (hit_iff.2 ⟨x, hx, h0, hth, by rw [h, hcd]⟩)
theorem hit_not {ls : List Nat} {X th s x cd : Nat} (hx : ls[s]? = some x) (hcd : code ls s = cd) (h : ¬ (x ≤ th ∧ X / 2 ^ (15 - x) = cd)) : hit ls X th s = false := by
  cases hh : hit ls X th s
  · rfl
  · obtain ⟨y, hy, _, h2, h3⟩ := hit_iff.1 hh
    rw [hx] at hy
    injection hy with hy
    subst hy
    exact absurd ⟨h2, by rw [h3, hcd]⟩ h
theorem hit_zero {ls : List Nat} {X th s : Nat} (hx : ls[s]? = some 0) : hit ls X th s = false ∧ begin_ ls X th s = false := by
  constructor
  · cases hh : hit ls X th s
    · rfl
    · obtain ⟨y, hy, h1, _⟩ := hit_iff.1 hh
      rw [hx] at hy
      injection hy with hy
      exact absurd hy.symm h1
  · cases hh : begin_ ls X th s
    · rfl
    · obtain ⟨y, hy, h1, _⟩ := begin_iff.1 hh
      rw [hx] at hy
      injection hy with hy
      omega
theorem begin_not {ls : List Nat} {X th s x : Nat} (hx : ls[s]? = some x) (h : x ≤ th) : begin_ ls X th s = false := by
  cases hh : begin_ ls X th s
  · rfl
  · obtain ⟨y, hy, h1, _⟩ := begin_iff.1 hh
    rw [hx] at hy
    injection hy with hy
    omega
theorem begin_is {ls : List Nat} {X th s x cd : Nat} (hx : ls[s]? = some x) (hcd : code ls s = cd) (h : th < x) (hx15 : x ≤ 15) : begin_ ls X th s = decide (X / 2 ^ (15 - x) / 2 ^ (x - th) = cd / 2 ^ (x - th)) := by
  have e : X / 2 ^ (15 - x) / 2 ^ (x - th) = X / 2 ^ (15 - th) := by
    rw [Nat.div_div_eq_div_mul, ← Nat.pow_add, show 15 - x + (x - th) = 15 - th by omega]
  rw [e]
  unfold begin_
  have hg : ls.getD s 0 = x := by simp [List.getD_eq_getElem?_getD, hx]
  rw [hg, hcd]
  by_cases h2 : X / 2 ^ (15 - th) = cd / 2 ^ (x - th)
  · rw [decide_eq_true ⟨h, h2⟩, decide_eq_true h2]
  · rw [decide_eq_false (fun h3 => h2 h3.2), decide_eq_false h2]
theorem no_hits_snoc {ls : List Nat} {X th s : Nat} (h : ∀ t, t < s → hit ls X th t = false) (h2 : hit ls X th s = false) : ∀ t, t < s + 1 → hit ls X th t = false := by
  intro t ht
  by_cases e : t = s
  · rw [e]; exact h2
  · exact h t (by omega)
theorem getR_miss {ls : List Nat} {X th : Nat} (h : ∀ t, t < ls.length → hit ls X th t = false) : getR ls X th = if (List.range ls.length).any (begin_ ls X th) then (-1, 1, 0) else (-1, 7, 0) := by
  refine getR_none fun s => ?_
  by_cases hs : s < ls.length
  · exact h s hs
  · cases hh : hit ls X th s
    · rfl
    · obtain ⟨y, hy, _⟩ := hit_iff.1 hh
      exact absurd (List.getElem?_eq_some_iff.1 hy).1 hs

set_option maxHeartbeats 2000000 in
set_option maxRecDepth 100000 in
theorem rget_any (w : World) (clo cB g hi : Nat) (vl vc : Value) (ls : List Nat) (bs : List Bool) (at_ : Nat) (hok : okB ls = true) (hC : RCo w clo cB vl vc ls) (hcB : cB ≤ w.heap.size) (hR : RRd w g hi bs at_) (hhi : hi ≤ w.heap.size) :
    Calls Try.prog 58 #[.agg #[vl, vc], .pointer (some ⟨g, 0, none⟩)] w (RGetPost ls bs at_ g hi w) := by
  obtain ⟨hlen, hsm, _⟩ := ok_parts hok
  obtain ⟨A, c, rfl, hrl⟩ := hC.lens
  obtain ⟨A', c', rfl, hrc⟩ := hC.codes
  have hgl : g < w.heap.size := by obtain ⟨_, _, h1, _⟩ := hR; exact h1.lt
  have hat : at_ ≤ bs.length ∧ bs.length ≤ 800000 := by obtain ⟨_, _, _, _, h3, h4⟩ := hR; exact ⟨h3, h4⟩
  obtain ⟨w0, hw0⟩ : ∃ w0, w0 = w.alloc (.cells #[.slice A ls.length c, .slice A' ls.length c'] 62) := ⟨_, rfl⟩
  have hbel : Below w.heap.size w w0 := by rw [hw0]; exact bel_alloc0 (Below.refl _ _)
  have blk : Blk w0 w.heap.size 62 #[.slice A ls.length c, .slice A' ls.length c'] := by rw [hw0]; exact Blk.made _ _ _
  have hR0 : RRd w0 g hi bs at_ := hR.keep (fun b _ hb => hbel.block b (by omega))
  have hrl0 : Row w0 cB A ls.length 1 (numF .u8 ls) := (hrl.keep (fun p _ h => hbel.cell (by omega))).row
  have hrc0 : Row w0 cB A' ls.length 1 (fun i _ => .int .u16 (codeW ls i : Nat)) := (hrc.keep (fun p _ h => hbel.cell (by omega))).row
  have p0 := blk.cell 0
  have p1 := blk.cell 1
  simp only [List.getElem?_toArray, List.getElem?_cons_zero, List.getElem?_cons_succ] at p0 p1
  have hX := head_lt bs at_
  have hthd : there bs at_ = min 15 (bs.length - at_) := rfl
  have hpk := fun x (h : x ≤ 15) => accB_head bs at_ x h
  unfold RGetPost
  generalize head bs at_ = X at *
  generalize there bs at_ = th at *
  have HKP := Lib.hid (Kept.of_below (K := fun x => x < w.heap.size ∧ x ≠ g) hbel (fun _ h => h.1))
  have HR := Lib.hid hR0
  have HOK := Lib.hid hok
  have HSM := Lib.hid hsm
  have HRL := Lib.hid hrl0
  have HRC := Lib.hid hrc0
  have HPK := Lib.hid hpk
  have HTH := Lib.hid hthd
  have HN : Hid (∃ n, n = ls.length) := ⟨_, rfl⟩
  obtain ⟨n, hn⟩ := HN.out
  rw [← hn] at p0 p1 hlen HRL HRC
  have HNN := Lib.hid hn
  have hwo : w0 = w.alloc (.cells #[.slice A n c, .slice A' n c'] 62) := by rw [hn]; exact hw0
  rw [← hn]
  clear hR hR0 hok hsm hrl hrc hrl0 hrc0 hC hpk hthd blk hbel HN hw0 hn hcB hhi
  subst hwo
  go_enter Try.func58, Try.ntmps58
  go_wp2_with fail
  generalize w.alloc (.cells #[.slice A n c, .slice A' n c'] 62) = w0 at *
  go_loopw [6, 7, 8, 9, 10, 11, 12] (fun pv i _ _ _ _ _ wr => ∃ (s : Nat) (pt : Bool), s ≤ n ∧ i = .int .i64 s ∧ pv = .bool pt ∧ Hid (∀ t, t < s → hit ls X th t = false) ∧ Hid (pt = (List.range s).any (begin_ ls X th)) ∧ Hid (∃ q, wr = w0.drewN q)) (fun _ i _ _ _ _ _ _ => n - (intOf i).toNat)
  case atStart => exact ⟨0, false, by omega, rfl, rfl, (fun t h => by omega), rfl, ⟨0, rfl⟩⟩
  case round =>
    obtain ⟨s, pt, hs, rfl, rfl, hno, hpt, hdr⟩ := hrel
    have hR1 : RRd wr g hi bs at_ := by obtain ⟨q, hq⟩ := hdr.out; rw [hq]; exact HR.out
    have q0 : wr.cell? ⟨w.heap.size, 0, none⟩ = some (.slice A n c) := by obtain ⟨q, hq⟩ := hdr.out; rw [hq]; exact p0
    have q1 : wr.cell? ⟨w.heap.size, 1, none⟩ = some (.slice A' n c') := by obtain ⟨q, hq⟩ := hdr.out; rw [hq]; exact p1
    have hrl1 : Row wr cB A n 1 (numF .u8 ls) := by obtain ⟨q, hq⟩ := hdr.out; rw [hq]; exact HRL.out
    have hrc1 : Row wr cB A' n 1 (fun i _ => .int .u16 (codeW ls i : Nat)) := by obtain ⟨q, hq⟩ := hdr.out; rw [hq]; exact HRC.out
    obtain ⟨AR, cR, _, r1, r2, _, _, _⟩ := hR1.cells
    have HK1 : Hid (Kept (fun x => x < w.heap.size ∧ x ≠ g) w wr) := by
      show Kept _ w wr
      obtain ⟨q, hq⟩ := hdr.out
      rw [hq]
      exact HKP.out.drewN q
    obtain ⟨hat1, hat2⟩ := hat
    have HR1 := Lib.hid hR1
    have HRC1 := Lib.hid hrc1
    clear hR1 hrc1
    by_cases hlt : s < n
    · obtain ⟨b, off, x, rfl, hbb, hx, d0⟩ := num_cell hrl1 HNN.out.symm hlt
      have hx15 := HSM.out x (List.mem_of_getElem? hx)
      have HXS := Lib.hid hx
      have x0 : (0 : Int) ≤ (s : Int) := by omega
      have x1 : (s : Int) < (n : Int) := by omega
      clear hx hrl1
      by_cases hx0 : x = 0
      · subst hx0
        have HNO := Lib.hid (no_hits_snoc hno.out (hit_zero HXS.out).1)
        have HPT : Hid (pt = (List.range (s + 1)).any (begin_ ls X th)) := by show _ = _; rw [any_snoc, (hit_zero HXS.out).2, Bool.or_false]; exact hpt.out
        clear hno hpt
        go_wp2_with fail
        go_roundw
        case measure => go_light; simp [intOf]; omega
        case rel =>
          go_light
          exact ⟨s + 1, pt, by omega, by go_num, rfl, HNO.out, HPT.out, hdr.out⟩
      · have hxb : ((x : Int) == 0) = false := by simp; omega
        have C1 := rpeek_any wr g hi bs at_ x (by omega) HR1.out
        rw [HPK.out x hx15] at C1
        have C1 := Lib.hid C1
        have hcl := code_lt HOK.out HXS.out hx0
        have hcl2 : code ls s < 65536 := Nat.lt_of_lt_of_le hcl (by have : 2 ^ x ≤ 2 ^ 15 := Nat.pow_le_pow_right (by omega) hx15; omega)
        have hcw : codeW ls s = code ls s := Nat.mod_eq_of_lt hcl2
        obtain ⟨b', off', rfl, _, hcell⟩ := HRC1.out (by omega)
        have d1 := hcell s 0 hlt (by omega)
        have hyl := Nat.div_le_self X (2 ^ (15 - x))
        obtain ⟨y, hy⟩ : ∃ y, y = X / 2 ^ (15 - x) := ⟨_, rfl⟩
        rw [← hy] at C1 hyl
        have HY := Lib.hid hy
        obtain ⟨cd, hcd⟩ : ∃ cd, cd = code ls s := ⟨_, rfl⟩
        have d2 : wr.cell? ⟨b', off' + s, none⟩ = some (.int .u16 cd) := by
          have := d1
          simpa [hcw, hcd] using this
        rw [← hcd] at hcl2
        have HCD := Lib.hid hcd
        have hxp : 0 < x := by omega
        clear d1 hcell hcl hcw hy hcd hx0
        by_cases hin : x ≤ bs.length - at_
        · rw [Nat.min_eq_left hin] at C1
          have hxth : x ≤ th := by rw [HTH.out]; omega
          by_cases heq : y = cd
          · subst heq
            have HG := Lib.hid (getR_hits HOK.out HXS.out (by omega) hxth HCD.out.symm HY.out.symm)
            clear hno hpt
            go_wp2_with fail
            refine C1.out.mono ?_
            rintro e w2 ⟨rfl, q2, rfl⟩
            go_wp2_with fail
            go_ret2
            rw [HG.out]
            exact ⟨rfl, (HR1.out.drewN q2).moved (by omega), Kept.set (p := ⟨g, 1, none⟩) (HK1.out.drewN q2) (fun h => h.2 rfl) _⟩
          · have HNO := Lib.hid (no_hits_snoc hno.out (hit_not (X := X) (th := th) HXS.out HCD.out.symm (fun h => heq (HY.out.trans h.2))))
            have HPT : Hid (pt = (List.range (s + 1)).any (begin_ ls X th)) := by show _ = _; rw [any_snoc, begin_not HXS.out hxth, Bool.or_false]; exact hpt.out
            have hne : ((y : Int) == (cd : Int)) = false := by simp; omega
            clear hno hpt heq
            go_wp2_with fail
            refine C1.out.mono ?_
            rintro e w2 ⟨rfl, q2, rfl⟩
            go_wp2_with fail
            go_roundw
            case measure => go_light; simp [intOf]; omega
            case rel =>
              go_light
              refine ⟨s + 1, pt, by omega, by go_num, rfl, HNO.out, HPT.out, ?_⟩
              obtain ⟨q, rfl⟩ := hdr.out
              exact ⟨_, World.drewN_drewN _ _ _⟩
        · rw [Nat.min_eq_right (by omega)] at C1
          have hth : th = bs.length - at_ := by rw [HTH.out]; omega
          rw [← hth] at C1
          have hxth : th < x := by omega
          have HB := begin_is (X := X) HXS.out HCD.out.symm hxth hx15
          rw [← HY.out] at HB
          have HB := Lib.hid HB
          have HNO := Lib.hid (no_hits_snoc hno.out (hit_not (X := X) (th := th) HXS.out HCD.out.symm (fun h => by omega)))
          have htb : th ≤ 15 := by omega
          clear hno hth
          go_wp2_with fail
          refine C1.out.mono ?_
          rintro e w2 ⟨rfl, q2, rfl⟩
          go_wp2_with fail
          obtain ⟨w3, hw3⟩ : ∃ w3, w3 = wr.drewN q2 := ⟨_, rfl⟩
          rw [← hw3]
          have HW3 := Lib.hid hw3
          clear hw3
          go_loop [9, 11, 12] (fun a b d => ∃ K Y W : Nat, th ≤ K ∧ K ≤ x ∧ d = .int .i64 K ∧ a = .int .u64 Y ∧ b = .int .u64 W ∧ Hid (Y = y / 2 ^ (K - th)) ∧ Hid (W = cd / 2 ^ (K - th)) ∧ Y ≤ 65536 ∧ W ≤ 65536) (fun _ _ d => x - (intOf d).toNat)
          case atStart => exact ⟨th, y, cd, by omega, by omega, rfl, rfl, rfl, by show y = _; simp, by show cd = _; simp, by omega, by omega⟩
          case round =>
            obtain ⟨K, Y, W, hK1, hK2, rfl, rfl, rfl, hY, hW, hYb, hWb⟩ := hrel
            by_cases hlK : K < x
            · have hY2 : Y / 2 = y / 2 ^ (K + 1 - th) := by rw [hY.out, show K + 1 - th = (K - th) + 1 by omega, Nat.pow_succ, Nat.div_div_eq_div_mul]
              have hW2 : W / 2 = cd / 2 ^ (K + 1 - th) := by rw [hW.out, show K + 1 - th = (K - th) + 1 by omega, Nat.pow_succ, Nat.div_div_eq_div_mul]
              have HY2 := Lib.hid hY2
              have HW2 := Lib.hid hW2
              clear hY hW hY2 hW2
              go_wp2_with fail
              go_round
              case measure => go_light; simp [intOf]; omega
              case rel =>
                go_light
                exact ⟨K + 1, Y / 2, W / 2, by omega, by omega, by go_num, by go_num, by go_num, HY2.out, HW2.out, by omega, by omega⟩
            · obtain rfl : K = x := by omega
              have HB2 : Hid (begin_ ls X th s = decide (Y = W)) := by show _ = _; rw [HB.out, hY.out, hW.out]
              have HD3 : Hid (∃ q, w3 = w0.drewN q) := by
                obtain ⟨q, hq⟩ := hdr.out
                exact ⟨_, by rw [HW3.out, hq, World.drewN_drewN]⟩
              clear hY hW
              cases pt
              · have HPT : Hid (((Y : Int) == (W : Int)) = (List.range (s + 1)).any (begin_ ls X th)) := by
                  show _ = _
                  rw [any_snoc, HB2.out, ← hpt.out, Bool.false_or]
                  by_cases h : Y = W
                  · subst h; simp
                  · rw [decide_eq_false h]; simp; omega
                clear hpt
                go_wp2_with fail
                go_roundw
                case measure => go_light; simp [intOf]; omega
                case rel =>
                  go_light
                  exact ⟨s + 1, _, by omega, by go_num, rfl, HNO.out, HPT.out, HD3.out⟩
              · have HPT : Hid (true = (List.range (s + 1)).any (begin_ ls X th)) := by
                  show _ = _
                  rw [any_snoc, ← hpt.out, Bool.true_or]
                clear hpt
                go_wp2_with fail
                go_roundw
                case measure => go_light; simp [intOf]; omega
                case rel =>
                  go_light
                  exact ⟨s + 1, true, by omega, by go_num, rfl, HNO.out, HPT.out, HD3.out⟩
    · obtain rfl : s = n := by omega
      have hG := getR_miss (X := X) (th := th) (ls := ls) (fun t ht => hno.out t (by rw [HNN.out]; exact ht))
      rw [← HNN.out, ← hpt.out] at hG
      have HG := Lib.hid hG
      clear hG hno hpt
      cases pt
      · go_wp2_with fail
        go_ret2
        rw [HG.out]
        exact ⟨rfl, HR1.out, HK1.out⟩
      · go_wp2_with fail
        go_ret2
        rw [HG.out]
        exact ⟨rfl, HR1.out, HK1.out⟩
end Go.Proofs.Ytdfpcnldfibceaa.Huff
