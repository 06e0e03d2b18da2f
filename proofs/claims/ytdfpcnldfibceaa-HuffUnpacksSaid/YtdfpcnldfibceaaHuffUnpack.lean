/-
  The walk of huff.Unpack.
-/
import Derived.Test.YtdfpcnldfibceaaHuffGet2
import Derived.Test.YtdfpcnldfibceaaOpenNums
import Derived.Test.YtdfpcnldfibceaaApp
namespace Go.Proofs.Ytdfpcnldfibceaa.Huff
open Go.RowKit Go.Proofs.Ytdfpcnldfibceaa.Mem Go.Proofs.Ytdfpcnldfibceaa.Canon Go.Proofs.Ytdfpcnldfibceaa.Own Go.Proofs.Ytdfpcnldfibceaa.Open

def intL (l : List Int) : List Value := l.map fun x => .int .i64 x
theorem intL_snoc (l : List Int) (x : Int) : intL (l ++ [x]) = intL l ++ [.int .i64 x] := by simp [intL]
theorem unGo_err {ls : List Nat} {bs : List Bool} {out : List Int} {at_ m ga : Nat} {gv ge : Int} (h : getR ls (head bs at_) (there bs at_) = (gv, ge, ga)) (he : ge ≠ 0) : unGo ls bs (m + 1) out at_ = ([], ge) := by
  unfold unGo
  rw [h]
  simp [he]
theorem unGo_next {ls : List Nat} {bs : List Bool} {out : List Int} {at_ m ga : Nat} {gv : Int} (h : getR ls (head bs at_) (there bs at_) = (gv, 0, ga)) : unGo ls bs (m + 1) out at_ = unGo ls bs m (out ++ [gv]) (at_ + ga) := by
  conv => lhs; unfold unGo
  rw [h]
  simp
theorem unGo_end (ls : List Nat) (bs : List Bool) (out : List Int) (at_ : Nat) : unGo ls bs 0 out at_ = if padE bs at_ = 0 then (out, 0) else ([], 2) := by
  unfold unGo padE
  split
  · rw [if_neg (by decide)]
  · rw [if_pos rfl]
theorem padE_cases (bs : List Bool) (at_ : Nat) : padE bs at_ = 0 ∨ padE bs at_ = 2 := by
  unfold padE
  split
  · exact .inr rfl
  · exact .inl rfl
/-- What unpacking gives: the symbols, the error. -/
def unpackR (ls : List Nat) (N : Int) (lb : List Nat) : List Int × Int :=
  if N < 0 ∨ 100000 < N then ([], 13) else if okB ls = true then unGo ls (rbits lb) N.toNat [] 0 else ([], 7)
def UnPost (R : List Int × Int) (w : World) (e : Ending) (w' : World) : Prop :=
  ∃ v, e = .returned (.tuple #[v, .int .i64 R.2]) ∧ w'.ownsRow w.heap.size 3 1 v R.1.length (intL R.1) ∧ Below w.heap.size w w'

set_option maxRecDepth 100000 in
theorem unpack_range (w : World) (A B : Option Addr) (n c m d : Nat) (N : Int) (ls lb : List Nat) (_hN1 : -9223372036854775808 ≤ N) (_hN2 : N ≤ 9223372036854775807) (h : N < 0 ∨ 100000 < N) :
    Calls Try.prog 71 #[.slice A n c, .int .i64 N, .slice B m d] w (UnPost (unpackR ls N lb) w) := by
  have hR : unpackR ls N lb = ([], 13) := by unfold unpackR; rw [if_pos h]
  rw [hR]
  clear hR
  by_cases h0 : N < 0
  · clear h
    go_enter Try.func71, Try.ntmps71
    go_wp2_with fail
    go_ret2
    exact ⟨_, rfl, World.ownsRow_nil _ _ _ _, Below.refl _ _⟩
  · have h1 : 100000 < N := by omega
    clear h
    go_enter Try.func71, Try.ntmps71
    go_wp2_with fail
    go_ret2
    exact ⟨_, rfl, World.ownsRow_nil _ _ _ _, Below.refl _ _⟩
set_option maxRecDepth 100000 in
theorem unpack_bad (w : World) (A B : Option Addr) (n c m d N : Nat) (ls lb : List Nat) (hN : N ≤ 100000) (hn : ls.length = n) (hn2 : n ≤ 9223372036854775807) (hok : okB ls = false) (ha : Row w w.heap.size A n 1 (numF .u8 ls)) :
    Calls Try.prog 71 #[.slice A n c, .int .i64 N, .slice B m d] w (UnPost (unpackR ls N lb) w) := by
  have hR : unpackR ls N lb = ([], 7) := by unfold unpackR; rw [if_neg (by omega), hok]; rfl
  rw [hR]
  have C := Lib.hid (new_bad w A n c ls hn hn2 hok ha)
  clear hR hn hok
  go_enter Try.func71, Try.ntmps71
  go_wp2_with fail
  refine C.out.mono ?_
  rintro e w1 ⟨rfl, hb1⟩
  go_wp2_with fail
  go_ret2
  exact ⟨_, rfl, World.ownsRow_nil _ _ _ _, hb1⟩

set_option maxHeartbeats 1000000 in
set_option maxRecDepth 100000 in
theorem unpack_ok (w : World) (A B : Option Addr) (n c m d N : Nat) (ls lb : List Nat) (hN : N ≤ 100000) (hn : ls.length = n) (hok : okB ls = true) (hnil : A = none → n = 0 ∧ c = 0) (ha : Row w w.heap.size A n 1 (numF .u8 ls))
    (hm : lb.length = m) (hM : m ≤ 100000) (hb8 : ∀ x ∈ lb, x ≤ 255) (hnil2 : B = none → m = 0 ∧ d = 0) (hb : Row w w.heap.size B m 1 (numF .u8 lb)) :
    Calls Try.prog 71 #[.slice A n c, .int .i64 N, .slice B m d] w (UnPost (unpackR ls N lb) w) := by
  obtain ⟨j0, hj0, hy0, hy1, hy2⟩ := info_parts info_int
  have hR : unpackR ls N lb = unGo ls (rbits lb) N [] 0 := by unfold unpackR; rw [if_neg (by omega), if_pos hok, Int.toNat_natCast]
  rw [hR]
  have C1 := Lib.hid (new_any w A n c ls hn hok hnil ha)
  have C2 := Lib.hid (fun wx (h : Below w.heap.size w wx) => newreader_any wx B m d lb hm hM hb8 hnil2 ((hb.below h).mono h.size))
  have HOK := Lib.hid hok
  clear hR hn hok hnil hm hb8 hnil2 hb ha
  generalize rbits lb = bs at *
  go_enter Try.func71, Try.ntmps71
  go_wp2_with fail
  refine C1.out.mono ?_
  rintro e w1 ⟨gc, rfl, hC, hb1⟩
  have z1 := hb1.size
  go_wp2_with fail
  refine (C2.out _ hb1).mono ?_
  rintro e w2 ⟨g, rfl, hRd, hg, hb2⟩
  have z2 := hb2.size
  have hgl := hRd.lt
  have HC : Hid (Coder w2 w.heap.size w1.heap.size gc ls) := hC.below hb2 (Nat.le_refl _)
  have hgc := HC.out.lt
  have HRd := Lib.hid hRd
  have HB := Lib.hid (bel_step hb2 z1 hb1)
  clear hC hRd hb1 hb2 C1 C2
  go_wp2_with fail
  go_loopw [11, 32] (fun u i wr => ∃ (k at_ : Nat) (out : List Int), k ≤ N ∧ i = .int .i64 k ∧ at_ ≤ bs.length ∧ Hid (Rd wr w1.heap.size g bs at_) ∧ Hid (out.length = k) ∧ wr.ownsRow w2.heap.size 3 1 u k (intL out) ∧ Hid (unGo ls bs (N - k) out at_ = unGo ls bs N [] 0) ∧ Hid (Kept (fun x => x < w2.heap.size ∧ x ≠ g) w2 wr)) (fun _ i _ => N - (intOf i).toNat)
  case atStart => exact ⟨0, 0, [], by omega, rfl, by omega, HRd.out, rfl, World.ownsRow_nil _ _ _ _, by show unGo ls bs (N - 0) [] 0 = _; rw [Nat.sub_zero], Kept.refl _ _⟩
  case round =>
    clear HRd
    obtain ⟨k, at_, out, hk, rfl, hat, hRd, hlen, hown, hgo, hkp⟩ := hrel
    have hkz := hkp.out.size
    by_cases hlt : k < N
    · have HCk : Coder wr w.heap.size w1.heap.size gc ls := HC.out.kept hkp.out (fun b _ h => ⟨by omega, by omega⟩)
      have C3 := get_any wr w.heap.size w1.heap.size gc w1.heap.size g ls bs at_ HOK.out HCk hRd.out
      unfold GetPost at C3
      have hg1 := hgo.out
      rw [show N - k = (N - (k + 1)) + 1 by omega] at hg1
      generalize hG : getR ls (head bs at_) (there bs at_) = G at *
      obtain ⟨gv, ge, ga⟩ := G
      have C3 := Lib.hid C3
      by_cases he : ge = 0
      · subst he
        rw [unGo_next hG] at hg1
        have HG1 := Lib.hid hg1
        clear hG hg1 hgo HCk
        go_wp2_with fail
        refine C3.out.mono ?_
        rintro e w3 ⟨rfl, hRd3, hk3⟩
        have hown3 : w3.ownsRow w2.heap.size 3 1 _ k (intL out) := own_kept hown (fun x hx => hk3.block x (by have := (World.ownsRow.lt hown x hx).1; show x ≠ g; omega))
        have hat2 : at_ + ga ≤ bs.length := by
          obtain ⟨A', n', c', l', h1, h2, h3, h4, h5, h6, h7⟩ := hRd3
          rw [h5, rbits_length, h3]; exact h6
        have hz3 := hk3.size
        obtain ⟨va, vc, rfl⟩ := own_shape hown3
        have HRd3 := Lib.hid hRd3
        have HK3 : Hid (Kept (fun x => x < w2.heap.size ∧ x ≠ g) w2 w3) := hkp.out.trans ⟨hk3.os, hk3.tape, hk3.output, hk3.size, fun b h => hk3.block b h.2⟩
        clear hk3 hRd3 hRd hkp C3 hown
        go_wp2_with (at_builtin; refine wpList_app rfl (.tmp 43) (.tmp 45) 67 rfl w2.heap.size 3 j0 _ 1 8 Try.underlying67 hj0 hy0 hy1 hy2 rfl (by decide) _ _ _ (by rfl) (hown3.alloc _) _ 1 1 [.int .i64 gv] (by rfl) (Src.of_blk (Blk.made _ _ _) 1 1 1 rfl) (by intro u hu; simp at hu; subst hu; rfl) (by unfold maxLen; omega) (by omega) (by simp; omega) ?_; intro v4 w4 hown4 hg4 hat4)
        have hkK : ∀ b, (b < w2.heap.size ∧ b ≠ g) → b < (w3.alloc (.cells #[.int .i64 gv] 3)).heap.size := by intro b h; have := h.1; simp; omega
        go_roundw
        case measure => go_light; simp [intOf]; omega
        case rel =>
          go_light
          refine ⟨k + 1, at_ + ga, out ++ [gv], by omega, by go_num, hat2, ?_, ?_, ?_, ?_, ?_⟩
          · exact HRd3.out.keep (fun b _ h2 => (hg4.block b (by simp; omega) (fun h => by have := (World.ownsRow.lt hown3 b h.symm).1; omega)).trans (Below.heap_alloc w3 _ b (by omega))) hg
          · show (out ++ [gv]).length = k + 1; rw [List.length_append, hlen.out]; rfl
          · rw [intL_snoc]; exact hown4
          · exact HG1.out
          · exact (HK3.out.alloc (fun b h => by have := h.1; omega) _).grown hg4 hkK (fun b hb hh => by have := (World.ownsRow.lt hown3 b hb).1; have := hh.1; omega)
      · have hb : (ge != 0) = true := bne_iff_ne.mpr he
        rw [unGo_err hG he] at hg1
        have HG1 := Lib.hid hg1
        clear hG hg1 hgo HCk he
        go_wp2_with fail
        refine C3.out.mono ?_
        rintro e w3 ⟨rfl, hRd3, hk3⟩
        go_wp2_with fail
        go_ret2
        rw [← HG1.out]
        refine ⟨_, rfl, World.ownsRow_nil _ _ _ _, HB.out.trans (Kept.below (K := fun x => x < w2.heap.size ∧ x ≠ g) (hkp.out.trans ⟨hk3.os, hk3.tape, hk3.output, hk3.size, fun b h => hk3.block b h.2⟩) (fun b h => ⟨by omega, by omega⟩))⟩
    · obtain rfl : k = N := by omega
      have hg1 := hgo.out
      rw [Nat.sub_self, unGo_end] at hg1
      have C3 := pad_any wr w1.heap.size g bs at_ hRd.out
      rcases padE_cases bs at_ with hp | hp
      · rw [hp] at C3 hg1
        rw [if_pos rfl] at hg1
        have C3 := Lib.hid C3
        have HG1 := Lib.hid hg1
        clear hp hg1 hgo
        go_wp2_with fail
        refine C3.out.mono ?_
        rintro e w3 ⟨rfl, q, rfl⟩
        go_wp2_with fail
        go_ret2
        rw [← HG1.out]
        refine ⟨_, rfl, ?_, HB.out.trans ((hkp.out.drewN q).below (fun b h => ⟨by omega, by omega⟩))⟩
        show World.ownsRow _ _ _ _ _ out.length _
        rw [hlen.out]
        exact own_mono hown (by omega)
      · rw [hp] at C3 hg1
        rw [if_neg (by decide)] at hg1
        have C3 := Lib.hid C3
        have HG1 := Lib.hid hg1
        clear hp hg1 hgo
        go_wp2_with fail
        refine C3.out.mono ?_
        rintro e w3 ⟨rfl, q, rfl⟩
        go_wp2_with fail
        go_ret2
        rw [← HG1.out]
        exact ⟨_, rfl, World.ownsRow_nil _ _ _ _, HB.out.trans ((hkp.out.drewN q).below (fun b h => ⟨by omega, by omega⟩))⟩
end Go.Proofs.Ytdfpcnldfibceaa.Huff
