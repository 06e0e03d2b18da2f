/-
  The walk of the reference's Unpack.
-/
import Derived.Test.YtdfpcnldfibceaaRefGet
import Derived.Test.YtdfpcnldfibceaaRefReader
import Derived.Test.YtdfpcnldfibceaaRefPad
import Derived.Test.YtdfpcnldfibceaaHuffUnpack
namespace Go.Proofs.Ytdfpcnldfibceaa.Huff
open Go.RowKit Go.Proofs.Ytdfpcnldfibceaa.Mem Go.Proofs.Ytdfpcnldfibceaa.Canon Go.Proofs.Ytdfpcnldfibceaa.Own Go.Proofs.Ytdfpcnldfibceaa.Open

set_option maxRecDepth 100000 in
theorem runpack_range (w : World) (A B : Option Addr) (n c m d : Nat) (N : Int) (ls lb : List Nat) (_hN1 : -9223372036854775808 ≤ N) (_hN2 : N ≤ 9223372036854775807) (h : N < 0 ∨ 100000 < N) :
    Calls Try.prog 72 #[.slice A n c, .int .i64 N, .slice B m d] w (UnPost (unpackR ls N lb) w) := by
  have hR : unpackR ls N lb = ([], 13) := by unfold unpackR; rw [if_pos h]
  rw [hR]
  clear hR
  by_cases h0 : N < 0
  · clear h
    go_enter Try.func72, Try.ntmps72
    go_wp2_with fail
    go_ret2
    exact ⟨_, rfl, World.ownsRow_nil _ _ _ _, Below.refl _ _⟩
  · have h1 : 100000 < N := by omega
    clear h
    go_enter Try.func72, Try.ntmps72
    go_wp2_with fail
    go_ret2
    exact ⟨_, rfl, World.ownsRow_nil _ _ _ _, Below.refl _ _⟩
set_option maxRecDepth 100000 in
theorem runpack_bad (w : World) (A B : Option Addr) (n c m d N : Nat) (ls lb : List Nat) (hN : N ≤ 100000) (hn : ls.length = n) (hn2 : n ≤ 9223372036854775807) (hok : okB ls = false) (ha : Row w w.heap.size A n 1 (numF .u8 ls)) :
    Calls Try.prog 72 #[.slice A n c, .int .i64 N, .slice B m d] w (UnPost (unpackR ls N lb) w) := by
  have hR : unpackR ls N lb = ([], 7) := by unfold unpackR; rw [if_neg (by omega), hok]; rfl
  rw [hR]
  have C := Lib.hid (rnew_bad w A n c ls hn hn2 hok ha)
  clear hR hn hok
  go_enter Try.func72, Try.ntmps72
  go_wp2_with fail
  refine C.out.mono ?_
  rintro e w1 ⟨rfl, hb1⟩
  go_wp2_with fail
  go_ret2
  exact ⟨_, rfl, World.ownsRow_nil _ _ _ _, bel_alloc hb1.size hb1⟩

set_option maxHeartbeats 1000000 in
set_option maxRecDepth 100000 in
theorem runpack_ok (w : World) (A B : Option Addr) (n c m d N : Nat) (ls lb : List Nat) (hN : N ≤ 100000) (hn : ls.length = n) (hok : okB ls = true) (hnil : A = none → n = 0 ∧ c = 0) (ha : Row w w.heap.size A n 1 (numF .u8 ls))
    (hm : lb.length = m) (hM : m ≤ 100000) (hb8 : ∀ x ∈ lb, x ≤ 255) (hb : Row w w.heap.size B m 1 (numF .u8 lb)) :
    Calls Try.prog 72 #[.slice A n c, .int .i64 N, .slice B m d] w (UnPost (unpackR ls N lb) w) := by
  obtain ⟨j0, hj0, hy0, hy1, hy2⟩ := info_parts info_int
  have hR : unpackR ls N lb = unGo ls (rbits lb) N [] 0 := by unfold unpackR; rw [if_neg (by omega), if_pos hok, Int.toNat_natCast]
  rw [hR]
  have C1 := Lib.hid (rnew_any w A n c ls hn hok hnil ha)
  have C2 := Lib.hid (fun wx (h : Below w.heap.size w wx) => rreader_any wx B m d lb hm hM hb8 ((hb.below h).mono h.size))
  have HOK := Lib.hid hok
  clear hR hn hok hnil hm hb8 hb ha
  generalize rbits lb = bs at *
  go_enter Try.func72, Try.ntmps72
  go_wp2_with fail
  refine C1.out.mono ?_
  rintro e w0 ⟨vl, vc, rfl, hC, hb0⟩
  have z0 := hb0.size
  obtain ⟨AL, cL, rfl, _⟩ := hC.lens
  obtain ⟨AC, cC, rfl, _⟩ := hC.codes
  obtain ⟨nl, hnl⟩ : ∃ nl, nl = ls.length := ⟨_, rfl⟩
  rw [← hnl] at hC ⊢
  clear hnl
  have HC0 := Lib.hid hC
  clear hC C1
  go_wp2_with fail
  have hbel1 : Below w0.heap.size w0 (w0.alloc (.cells #[.slice AL nl cL, .slice AC nl cC] 62)) := bel_alloc0 (Below.refl _ _)
  have blk1 : Blk (w0.alloc (.cells #[.slice AL nl cL, .slice AC nl cC] 62)) w0.heap.size 62 #[.slice AL nl cL, .slice AC nl cC] := Blk.made _ _ _
  generalize w0.alloc (.cells #[.slice AL nl cL, .slice AC nl cC] 62) = w1 at *
  have z1 := blk1.lt
  refine (C2.out _ (hb0.trans (hbel1.mono z0))).mono ?_
  rintro e w2 ⟨g, rfl, hRd, hg, hb2⟩
  have z2 := hb2.size
  have hgl : g < w2.heap.size := by obtain ⟨_, _, h1, _⟩ := hRd; exact h1.lt
  have HC : Hid (RCo w2 w.heap.size w0.heap.size (.slice AL nl cL) (.slice AC nl cC) ls) := (HC0.out.kept (Kept.of_below hbel1 (fun k (h : k < w0.heap.size) => h)) (fun _ _ h => h)).kept (Kept.of_below hb2 (fun k (h : k < w1.heap.size) => h)) (fun _ _ h => by omega)
  have HB1 : Hid (Blk w2 w0.heap.size 62 #[.slice AL nl cL, .slice AC nl cC]) := blk1.below hb2 z1
  have HRd := Lib.hid hRd
  have HB := Lib.hid ((hb0.trans (hbel1.mono z0)).trans (hb2.mono (by omega)))
  clear hRd hb0 hb2 hbel1 blk1 C2 HC0
  go_wp2_with fail
  go_loopw [11, 12] (fun u i wr => ∃ (k at_ : Nat) (out : List Int), k ≤ N ∧ i = .int .i64 k ∧ at_ ≤ bs.length ∧ Hid (RRd wr g w2.heap.size bs at_) ∧ Hid (out.length = k) ∧ wr.ownsRow w2.heap.size 3 1 u k (intL out) ∧ Hid (unGo ls bs (N - k) out at_ = unGo ls bs N [] 0) ∧ Hid (Kept (fun x => x < w2.heap.size ∧ x ≠ g) w2 wr)) (fun _ i _ => N - (intOf i).toNat)
  case atStart => exact ⟨0, 0, [], by omega, rfl, by omega, HRd.out, rfl, World.ownsRow_nil _ _ _ _, by show unGo ls bs (N - 0) [] 0 = _; rw [Nat.sub_zero], Kept.refl _ _⟩
  case round =>
    clear HRd
    obtain ⟨k, at_, out, hk, rfl, hat, hRd, hlen, hown, hgo, hkp⟩ := hrel
    have hkz := hkp.out.size
    by_cases hlt : k < N
    · have HCk : RCo wr w.heap.size w0.heap.size (.slice AL nl cL) (.slice AC nl cC) ls := HC.out.kept hkp.out (fun b _ h => ⟨by omega, by omega⟩)
      have blkk : Blk wr w0.heap.size _ _ := (hkp.out.block w0.heap.size ⟨by omega, by omega⟩).trans HB1.out
      have q0 := blkk.cell 0
      have q1 := blkk.cell 1
      simp only [List.getElem?_toArray, List.getElem?_cons_zero, List.getElem?_cons_succ] at q0 q1
      have C3 := rget_any wr w.heap.size w0.heap.size g w2.heap.size _ _ ls bs at_ HOK.out HCk (by omega) hRd.out (by omega)
      unfold RGetPost at C3
      have hg1 := hgo.out
      rw [show N - k = (N - (k + 1)) + 1 by omega] at hg1
      generalize hG : getR ls (head bs at_) (there bs at_) = G at *
      obtain ⟨gv, ge, ga⟩ := G
      have C3 := Lib.hid C3
      by_cases he : ge = 0
      · subst he
        rw [unGo_next hG] at hg1
        have HG1 := Lib.hid hg1
        clear hG hg1 hgo HCk blkk
        go_wp2_with fail
        refine C3.out.mono ?_
        rintro e w3 ⟨rfl, hRd3, hk3⟩
        have hown3 : w3.ownsRow w2.heap.size 3 1 _ k (intL out) := own_kept hown (fun x hx => hk3.block x (by have := World.ownsRow.lt hown x hx; exact ⟨this.2, by omega⟩))
        have hat2 : at_ + ga ≤ bs.length := by obtain ⟨_, _, _, _, h3, _⟩ := hRd3; exact h3
        have hz3 := hk3.size
        obtain ⟨va, vc, rfl⟩ := own_shape hown3
        have HRd3 := Lib.hid hRd3
        have HK3 : Hid (Kept (fun x => x < w2.heap.size ∧ x ≠ g) w2 w3) := hkp.out.trans ⟨hk3.os, hk3.tape, hk3.output, hk3.size, fun b h => hk3.block b ⟨by omega, h.2⟩⟩
        clear hk3 hRd3 hRd hkp C3 hown q0 q1
        go_wp2_with (at_builtin; refine wpList_app rfl (.tmp 45) (.tmp 47) 67 rfl w2.heap.size 3 j0 _ 1 8 Try.underlying67 hj0 hy0 hy1 hy2 rfl (by decide) _ _ _ (by rfl) (hown3.alloc _) _ 1 1 [.int .i64 gv] (by rfl) (Src.of_blk (Blk.made _ _ _) 1 1 1 rfl) (by intro u hu; simp at hu; subst hu; rfl) (by unfold maxLen; omega) (by omega) (by simp; omega) ?_; intro v4 w4 hown4 hg4 hat4)
        have hkK : ∀ b, (b < w2.heap.size ∧ b ≠ g) → b < (w3.alloc (.cells #[.int .i64 gv] 3)).heap.size := by intro b h; have := h.1; simp; omega
        go_roundw
        case measure => go_light; simp [intOf]; omega
        case rel =>
          go_light
          refine ⟨k + 1, at_ + ga, out ++ [gv], by omega, by go_num, hat2, ?_, ?_, ?_, ?_, ?_⟩
          · exact HRd3.out.keep (fun b h1 h2 => (hg4.block b (by simp; omega) (fun h => by have := (World.ownsRow.lt hown3 b h.symm).1; omega)).trans (Below.heap_alloc w3 _ b (by omega)))
          · show (out ++ [gv]).length = k + 1; rw [List.length_append, hlen.out]; rfl
          · rw [intL_snoc]; exact hown4
          · exact HG1.out
          · exact (HK3.out.alloc (fun b h => by have := h.1; omega) _).grown hg4 hkK (fun b hb hh => by have := (World.ownsRow.lt hown3 b hb).1; have := hh.1; omega)
      · have hb : (ge != 0) = true := bne_iff_ne.mpr he
        rw [unGo_err hG he] at hg1
        have HG1 := Lib.hid hg1
        clear hG hg1 hgo HCk he blkk
        go_wp2_with fail
        refine C3.out.mono ?_
        rintro e w3 ⟨rfl, hRd3, hk3⟩
        go_wp2_with fail
        go_ret2
        rw [← HG1.out]
        refine ⟨_, rfl, World.ownsRow_nil _ _ _ _, HB.out.trans (Kept.below (K := fun x => x < w2.heap.size ∧ x ≠ g) (hkp.out.trans ⟨hk3.os, hk3.tape, hk3.output, hk3.size, fun b h => hk3.block b ⟨by omega, h.2⟩⟩) (fun b h => ⟨by omega, by omega⟩))⟩
    · obtain rfl : k = N := by omega
      have hg1 := hgo.out
      rw [Nat.sub_self, unGo_end] at hg1
      have C3 := rpad_any wr g w2.heap.size bs at_ hRd.out
      rcases padE_cases bs at_ with hp | hp
      · rw [hp] at C3 hg1
        rw [if_pos rfl] at hg1
        have C3 := Lib.hid C3
        have HG1 := Lib.hid hg1
        clear hp hg1 hgo
        go_wp2_with fail
        refine C3.out.mono ?_
        rintro e w3 ⟨rfl, q, rfl⟩
        go_wp2_with fail
        go_ret2
        rw [← HG1.out]
        refine ⟨_, rfl, ?_, HB.out.trans ((hkp.out.drewN q).below (fun b h => ⟨by omega, by omega⟩))⟩
        show World.ownsRow _ _ _ _ _ out.length _
        rw [hlen.out]
        exact own_mono hown (by omega)
      · rw [hp] at C3 hg1
        rw [if_neg (by decide)] at hg1
        have C3 := Lib.hid C3
        have HG1 := Lib.hid hg1
        clear hp hg1 hgo
        go_wp2_with fail
        refine C3.out.mono ?_
        rintro e w3 ⟨rfl, q, rfl⟩
        go_wp2_with fail
        go_ret2
        rw [← HG1.out]
        exact ⟨_, rfl, World.ownsRow_nil _ _ _ _, HB.out.trans ((hkp.out.drewN q).below (fun b h => ⟨by omega, by omega⟩))⟩
end Go.Proofs.Ytdfpcnldfibceaa.Huff
