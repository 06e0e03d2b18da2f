/-
  Plain: words of a text, runs of a needle, which word fits (chapters 15 and 35). The walks of the letters: sift.letter, words.letter, firkinref15.Small. The walk of sift.small: small letters in the place of large ones. The walk of sift.runs: the runs of a needle. The walk of firkinref15.Words: the words of a text, by the places where they begin. The walks of words.Words, words.split and their two closures. The walks of words.split and words.Words. Plain: rising rows of texts; a record's terms; the index of a log. No walk. The walks of words.split with the two closures of words.Terms. (By progra
-/
import Derived.Test.YtcafklmbehoggaaGreatDoorZBodyNone1
import Derived.Test.YtcafklmbehoggaaGreatDoorZBodyNone2
import Derived.Test.YtcafklmbehoggaaGreatDoorZBodyNone3
import Derived.Lib.IndexMore
import Derived.Test.YtcafklmbehoggaaGreatDoorProg
import Derived.WalkKit
import Derived.ProofKit
import Derived.BigQuiet
import Derived.BigGuardPart
import Derived.Lib.Hide
import Derived.Deep.Light
import Derived.Laws.IdiomStrings
import Derived.Lib.SlBytesRow
import Derived.Deep.AppendLies
import Derived.Lib.MinMax
import Derived.Deep.RegionHeld3
namespace Go.Proofs.YtcafklmbehoggaaGreatDoor.Sift
def smallB (c : UInt8) : UInt8 := if 97 ≤ c.toNat ∧ c.toNat ≤ 122 ∨ 48 ≤ c.toNat ∧ c.toNat ≤ 57 then c else if 65 ≤ c.toNat ∧ c.toNat ≤ 90 then c + 32 else 0
def letB (c : UInt8) : Bool := smallB c != 0
def rest : List UInt8 → List UInt8
  | [] => []
  | c :: t => if letB c = true then rest t else c :: t
def tell (row : List UInt8) : List (List UInt8) := if row = [] then [] else [row.take 24]
def split : List UInt8 → List UInt8 → List (List UInt8)
  | row, [] => tell row
  | row, c :: t => if letB c = true then split (row ++ [smallB c]) t else tell row ++ split [] t
def words (l : List UInt8) : List (List UInt8) := split [] l
end Go.Proofs.YtcafklmbehoggaaGreatDoor.Sift
namespace Go.Proofs.YtcafklmbehoggaaGreatDoor.Sift
open Go.RowKit Go.Proofs.YtcafklmbehoggaaGreatDoor.Mem
def isLet (n : Nat) : Bool := decide ((97 ≤ n ∧ n ≤ 122) ∨ (65 ≤ n ∧ n ≤ 90) ∨ (48 ≤ n ∧ n ≤ 57))
def smallN (n : Nat) : Nat := if (97 ≤ n ∧ n ≤ 122) ∨ (48 ≤ n ∧ n ≤ 57) then n else if 65 ≤ n ∧ n ≤ 90 then n + 32 else 0
theorem smallB_nat (c : UInt8) : (smallB c).toNat = smallN c.toNat := by
  unfold smallB smallN
  split
  · rfl
  · split
    · rename_i h
      rw [UInt8.toNat_add]
      show (c.toNat + 32) % 256 = _
      omega
    · rfl
theorem letB_nat (c : UInt8) : letB c = isLet c.toNat := by
  have h : letB c = decide ((smallB c).toNat ≠ 0) := by
    unfold letB
    rw [Bool.eq_iff_iff, bne_iff_ne, decide_eq_true_eq]
    constructor
    · intro h h2; exact h (UInt8.toNat_inj.1 h2)
    · intro h h2; exact h (by rw [h2]; rfl)
  rw [h, smallB_nat]
  unfold smallN isLet
  rw [Bool.eq_iff_iff, decide_eq_true_eq, decide_eq_true_eq]
  split
  · constructor <;> intro _ <;> omega
  · split
    · constructor <;> intro _ <;> omega
    · constructor <;> intro _ <;> omega
theorem classes (n : Nat) : n < 48 ∨ (48 ≤ n ∧ n ≤ 57) ∨ (58 ≤ n ∧ n ≤ 64) ∨ (65 ≤ n ∧ n ≤ 90) ∨ (91 ≤ n ∧ n ≤ 96) ∨ (97 ≤ n ∧ n ≤ 122) ∨ 123 ≤ n := by omega
theorem isLet_yes {n : Nat} (h : (97 ≤ n ∧ n ≤ 122) ∨ (65 ≤ n ∧ n ≤ 90) ∨ (48 ≤ n ∧ n ≤ 57)) : isLet n = true := decide_eq_true h
theorem isLet_no {n : Nat} (h : ¬ ((97 ≤ n ∧ n ≤ 122) ∨ (65 ≤ n ∧ n ≤ 90) ∨ (48 ≤ n ∧ n ≤ 57))) : isLet n = false := decide_eq_false h
theorem smallN_n {n : Nat} (h : (97 ≤ n ∧ n ≤ 122) ∨ (48 ≤ n ∧ n ≤ 57)) : smallN n = n := if_pos h
theorem smallN_up {n : Nat} (h : 65 ≤ n ∧ n ≤ 90) : smallN n = n + 32 := (if_neg (by omega)).trans (if_pos h)
theorem smallN_no {n : Nat} (h : ¬ ((97 ≤ n ∧ n ≤ 122) ∨ (48 ≤ n ∧ n ≤ 57)) ∧ ¬ (65 ≤ n ∧ n ≤ 90)) : smallN n = 0 := (if_neg h.1).trans (if_neg h.2)
set_option maxRecDepth 100000 in
theorem wletter_cap (n : Nat) (h : 65 ≤ n) (h' : n ≤ 90) (w : World) : Calls Tryz.prog 202 #[.int .u8 n] w fun e w' => e = .returned (.tuple #[.int .u8 (n + 32 : Nat), .bool true]) ∧ w = w' := by
  have g0 : decide ((97 : Int) ≤ (n : Int)) = false := decide_eq_false (by omega)
  have g1 : decide ((65 : Int) ≤ (n : Int)) = true := decide_eq_true (by omega)
  have g2 : decide ((48 : Int) ≤ (n : Int)) = true := decide_eq_true (by omega)
  have l0 : decide ((n : Int) ≤ 122) = true := decide_eq_true (by omega)
  have l1 : decide ((n : Int) ≤ 90) = true := decide_eq_true (by omega)
  have l2 : decide ((n : Int) ≤ 57) = false := decide_eq_false (by omega)
  go_enter Tryz.func202, Tryz.ntmps202
  go_wp2_with fail
  go_ret2
  exact ⟨by first | rfl | go_num | (congr 1; omega), rfl⟩
set_option maxRecDepth 100000 in
theorem wletter_low (n : Nat) (h : 97 ≤ n) (h' : n ≤ 122) (w : World) : Calls Tryz.prog 202 #[.int .u8 n] w fun e w' => e = .returned (.tuple #[.int .u8 (n : Nat), .bool true]) ∧ w = w' := by
  have g0 : decide ((97 : Int) ≤ (n : Int)) = true := decide_eq_true (by omega)
  have g1 : decide ((65 : Int) ≤ (n : Int)) = true := decide_eq_true (by omega)
  have g2 : decide ((48 : Int) ≤ (n : Int)) = true := decide_eq_true (by omega)
  have l0 : decide ((n : Int) ≤ 122) = true := decide_eq_true (by omega)
  have l1 : decide ((n : Int) ≤ 90) = false := decide_eq_false (by omega)
  have l2 : decide ((n : Int) ≤ 57) = false := decide_eq_false (by omega)
  go_enter Tryz.func202, Tryz.ntmps202
  go_wp2_with fail
  go_ret2
  exact ⟨by first | rfl | go_num | (congr 1; omega), rfl⟩
set_option maxRecDepth 100000 in
theorem wletter_dig (n : Nat) (h : 48 ≤ n) (h' : n ≤ 57) (w : World) : Calls Tryz.prog 202 #[.int .u8 n] w fun e w' => e = .returned (.tuple #[.int .u8 (n : Nat), .bool true]) ∧ w = w' := by
  have g0 : decide ((97 : Int) ≤ (n : Int)) = false := decide_eq_false (by omega)
  have g1 : decide ((65 : Int) ≤ (n : Int)) = false := decide_eq_false (by omega)
  have g2 : decide ((48 : Int) ≤ (n : Int)) = true := decide_eq_true (by omega)
  have l0 : decide ((n : Int) ≤ 122) = true := decide_eq_true (by omega)
  have l1 : decide ((n : Int) ≤ 90) = true := decide_eq_true (by omega)
  have l2 : decide ((n : Int) ≤ 57) = true := decide_eq_true (by omega)
  go_enter Tryz.func202, Tryz.ntmps202
  go_wp2_with fail
  go_ret2
  exact ⟨by first | rfl | go_num | (congr 1; omega), rfl⟩
set_option maxRecDepth 100000 in
theorem wletter_n0 (n : Nat) (h : 0 ≤ n) (h' : n < 48) (w : World) : Calls Tryz.prog 202 #[.int .u8 n] w fun e w' => e = .returned (.tuple #[.int .u8 (0 : Nat), .bool false]) ∧ w = w' := by
  have g0 : decide ((97 : Int) ≤ (n : Int)) = false := decide_eq_false (by omega)
  have g1 : decide ((65 : Int) ≤ (n : Int)) = false := decide_eq_false (by omega)
  have g2 : decide ((48 : Int) ≤ (n : Int)) = false := decide_eq_false (by omega)
  have l0 : decide ((n : Int) ≤ 122) = true := decide_eq_true (by omega)
  have l1 : decide ((n : Int) ≤ 90) = true := decide_eq_true (by omega)
  have l2 : decide ((n : Int) ≤ 57) = true := decide_eq_true (by omega)
  go_enter Tryz.func202, Tryz.ntmps202
  go_wp2_with fail
  go_ret2
  exact ⟨by first | rfl | go_num | (congr 1; omega), rfl⟩
set_option maxRecDepth 100000 in
theorem wletter_n1 (n : Nat) (h : 58 ≤ n) (h' : n ≤ 64) (w : World) : Calls Tryz.prog 202 #[.int .u8 n] w fun e w' => e = .returned (.tuple #[.int .u8 (0 : Nat), .bool false]) ∧ w = w' := by
  have g0 : decide ((97 : Int) ≤ (n : Int)) = false := decide_eq_false (by omega)
  have g1 : decide ((65 : Int) ≤ (n : Int)) = false := decide_eq_false (by omega)
  have g2 : decide ((48 : Int) ≤ (n : Int)) = true := decide_eq_true (by omega)
  have l0 : decide ((n : Int) ≤ 122) = true := decide_eq_true (by omega)
  have l1 : decide ((n : Int) ≤ 90) = true := decide_eq_true (by omega)
  have l2 : decide ((n : Int) ≤ 57) = false := decide_eq_false (by omega)
  go_enter Tryz.func202, Tryz.ntmps202
  go_wp2_with fail
  go_ret2
  exact ⟨by first | rfl | go_num | (congr 1; omega), rfl⟩
set_option maxRecDepth 100000 in
theorem wletter_n2 (n : Nat) (h : 91 ≤ n) (h' : n ≤ 96) (w : World) : Calls Tryz.prog 202 #[.int .u8 n] w fun e w' => e = .returned (.tuple #[.int .u8 (0 : Nat), .bool false]) ∧ w = w' := by
  have g0 : decide ((97 : Int) ≤ (n : Int)) = false := decide_eq_false (by omega)
  have g1 : decide ((65 : Int) ≤ (n : Int)) = true := decide_eq_true (by omega)
  have g2 : decide ((48 : Int) ≤ (n : Int)) = true := decide_eq_true (by omega)
  have l0 : decide ((n : Int) ≤ 122) = true := decide_eq_true (by omega)
  have l1 : decide ((n : Int) ≤ 90) = false := decide_eq_false (by omega)
  have l2 : decide ((n : Int) ≤ 57) = false := decide_eq_false (by omega)
  go_enter Tryz.func202, Tryz.ntmps202
  go_wp2_with fail
  go_ret2
  exact ⟨by first | rfl | go_num | (congr 1; omega), rfl⟩
set_option maxRecDepth 100000 in
theorem wletter_n3 (n : Nat) (h : 123 ≤ n) (h' : n < 256) (w : World) : Calls Tryz.prog 202 #[.int .u8 n] w fun e w' => e = .returned (.tuple #[.int .u8 (0 : Nat), .bool false]) ∧ w = w' := by
  have g0 : decide ((97 : Int) ≤ (n : Int)) = true := decide_eq_true (by omega)
  have g1 : decide ((65 : Int) ≤ (n : Int)) = true := decide_eq_true (by omega)
  have g2 : decide ((48 : Int) ≤ (n : Int)) = true := decide_eq_true (by omega)
  have l0 : decide ((n : Int) ≤ 122) = false := decide_eq_false (by omega)
  have l1 : decide ((n : Int) ≤ 90) = false := decide_eq_false (by omega)
  have l2 : decide ((n : Int) ≤ 57) = false := decide_eq_false (by omega)
  go_enter Tryz.func202, Tryz.ntmps202
  go_wp2_with fail
  go_ret2
  exact ⟨by first | rfl | go_num | (congr 1; omega), rfl⟩
theorem wletter_any (n : Nat) (hn : n < 256) (w : World) : Calls Tryz.prog 202 #[.int .u8 n] w fun e w' => e = .returned (.tuple #[.int .u8 (smallN n : Nat), .bool (isLet n)]) ∧ w = w' := by
  rcases classes n with h | ⟨h, h'⟩ | ⟨h, h'⟩ | ⟨h, h'⟩ | ⟨h, h'⟩ | ⟨h, h'⟩ | h
  · rw [isLet_no (by omega), smallN_no (by omega)]; exact wletter_n0 n (by omega) h w
  · rw [isLet_yes (by omega), smallN_n (by omega)]; exact wletter_dig n h h' w
  · rw [isLet_no (by omega), smallN_no (by omega)]; exact wletter_n1 n h h' w
  · rw [isLet_yes (by omega), smallN_up (by omega)]; exact wletter_cap n h h' w
  · rw [isLet_no (by omega), smallN_no (by omega)]; exact wletter_n2 n h h' w
  · rw [isLet_yes (by omega), smallN_n (by omega)]; exact wletter_low n h h' w
  · rw [isLet_no (by omega), smallN_no (by omega)]; exact wletter_n3 n h hn w
end Go.Proofs.YtcafklmbehoggaaGreatDoor.Sift
namespace Go.Proofs.YtcafklmbehoggaaGreatDoor.Sift
open Go.RowKit Go.Proofs.YtcafklmbehoggaaGreatDoor.Mem
def bs (l : List UInt8) : ByteArray := ⟨l.toArray⟩
theorem bs_list (l : List UInt8) : (bs l).data.toList = l := rfl
theorem bs_size (l : List UInt8) : (bs l).size = l.length := by simp [bs, ByteArray.size]
theorem bs_at (l : List UInt8) (i : Nat) (h : i < (bs l).size) : (bs l)[i] = l[i]'(by rw [bs_size] at h; exact h) := by
  have h1 := byte_at' (bs l) i h (by rw [bs_list]; rw [bs_size] at h; exact h)
  exact h1.symm
end Go.Proofs.YtcafklmbehoggaaGreatDoor.Sift
namespace Go.Proofs.YtcafklmbehoggaaGreatDoor.Sift
open Go.RowKit Go.Proofs.YtcafklmbehoggaaGreatDoor.Mem Go.Proofs.YtcafklmbehoggaaGreatDoor.Own
theorem drop_at {s : ByteArray} {k : Nat} (h : k < s.size) : s.data.toList.drop k = s[k] :: s.data.toList.drop (k + 1) := by
  have h1 : k < s.data.toList.length := by rw [← Lib.size_eq]; exact h
  rw [List.drop_eq_getElem_cons h1, byte_at' s k h h1]
theorem extract_list (s : ByteArray) (a b : Nat) : (s.extract a b).data.toList = (s.data.toList.drop a).take (b - a) := by
  rw [← Lib.extract_toList, ByteArray.toList_eq]
end Go.Proofs.YtcafklmbehoggaaGreatDoor.Sift
namespace Go.Proofs.YtcafklmbehoggaaGreatDoor.Sift
open Go.RowKit Go.Proofs.YtcafklmbehoggaaGreatDoor.Mem Go.Proofs.YtcafklmbehoggaaGreatDoor.Own Go.Proofs.YtcafklmbehoggaaGreatDoor.Canon
def strL (ws : List (List UInt8)) : List Value := ws.map fun l => .string (bs l)
theorem strL_snoc (ws : List (List UInt8)) (x : List UInt8) : strL (ws ++ [x]) = strL ws ++ [.string (bs x)] := by simp [strL]
def byL (l : List UInt8) : List Value := l.map fun c => .int .u8 (c.toNat : Nat)
theorem byL_snoc (l : List UInt8) (x : UInt8) : byL (l ++ [x]) = byL l ++ [.int .u8 (x.toNat : Nat)] := by simp [byL]
theorem byL_get {l : List UInt8} {i : Nat} {c : UInt8} (h : l[i]? = some c) : (byL l)[i]? = some (.int .u8 (c.toNat : Nat)) := by simp [byL, h]
theorem info_str : (Tryz.prog.info? 9).map (fun i => (i.zero, i.size, i.bytes)) = some (some (.string ⟨#[]⟩), 1, 16) := by kernel_rfl
end Go.Proofs.YtcafklmbehoggaaGreatDoor.Sift
namespace Go.Proofs.YtcafklmbehoggaaGreatDoor.Sift
open Go.RowKit Go.Proofs.YtcafklmbehoggaaGreatDoor.Mem Go.Proofs.YtcafklmbehoggaaGreatDoor.Own Go.Proofs.YtcafklmbehoggaaGreatDoor.Canon
section
variable {wx w4 : World} {g base : Nat} {t e : TypeId} {s n : Nat} {v : Value} {xs cs}
theorem blk_over {row : Option Nat} {o : Obj} {p : Addr} (h : Blk wx g t cs) (hg : (wx.alloc o).grownBy w4 row) (hr : row ≠ some g) (hp : g ≠ p.block) (u : Value) : Blk (w4.setCell p u) g t cs :=
  ((h.alloc o).grown hg (fun e => hr e.symm)).far hp u
theorem own_over {row : Option Nat} {o : Obj} {p : Addr} (h : wx.ownsRow base e s v n xs) (hg : (wx.alloc o).grownBy w4 row) (hr : ∀ g, v.ownBlock = some g → row ≠ some g ∧ g ≠ p.block) (u : Value) : (w4.setCell p u).ownsRow base e s v n xs :=
  own_kept h fun b hb => by
    obtain ⟨h1, h2⟩ := hr b hb
    have h3 := (World.ownsRow.lt h b hb).2
    exact (Below.heap_setCell w4 p u b h2).trans ((hg.block b (by simp; omega) (fun e => h1 e.symm)).trans (Below.heap_alloc wx o b h3))
theorem own_set {p : Addr} (h : wx.ownsRow base e s v n xs) (hr : v.ownBlock ≠ some p.block) (u : Value) : (wx.setCell p u).ownsRow base e s v n xs :=
  own_kept h fun b hb => Below.heap_setCell wx p u b (fun e => hr (e ▸ hb))
end
structure WSt (base : Nat) (a w : World) (bo bw br : Nat) (ws : List (List UInt8)) (row : List UInt8) (fv vo vr : Value) : Prop where
  below : Below base a w
  o : Blk w bo 48 #[vo]
  f : Blk w bw 194 #[fv]
  r : Blk w br 29 #[vr]
  oo : w.ownsRow base 9 1 vo ws.length (strL ws)
  ro : w.ownsRow base 5 1 vr row.length (byL row)
  lo : base ≤ bo
  lr : base ≤ br
  la : base ≤ a.heap.size
section
variable {base : Nat} {a w w4 : World} {bo bw br : Nat} {ws : List (List UInt8)} {row : List UInt8} {fv vo vr v4 : Value}
theorem WSt.drew (h : WSt base a w bo bw br ws row fv vo vr) : WSt base a w.drew bo bw br ws row fv vo vr := ⟨h.below.drew, h.o, h.f, h.r, h.oo, h.ro, h.lo, h.lr, h.la⟩
theorem WSt.row_app {o : Obj} (h : WSt base a w bo bw br ws row fv vo vr) (c : UInt8) (own4 : w4.ownsRow base 5 1 v4 (row.length + 1) (byL row ++ [.int .u8 (c.toNat : Nat)])) (hg : (w.alloc o).grownBy w4 vr.ownBlock) :
    WSt base a (w4.setCell ⟨br, 0, none⟩ v4) bo bw br ws (row ++ [c]) fv vo v4 := by
  have hz := h.below.size
  have hb4 : Below base a w4 := (bel_alloc (by have := h.la; omega) h.below).grown hg (by simp; have := h.la; omega) (fun y hy => (World.ownsRow.lt h.ro y hy).1)
  refine ⟨hb4.setCell h.lr _, blk_over h.o hg (own_blk h.ro h.o (by decide)) (Blk.apart h.o h.r (by decide)) _, blk_over h.f hg (own_blk h.ro h.f (by decide)) (Blk.apart h.f h.r (by decide)) _, ?_, own_over h.oo hg (fun g hg2 => ⟨?_, ?_⟩) _, ?_, h.lo, h.lr, h.la⟩
  · exact (((h.r.alloc o).grown hg (fun e => own_blk h.ro h.r (by decide) e.symm))).set 0 v4
  · intro e
    rcases own_apart h.oo h.ro (by decide) with h1 | h1
    · rw [h1] at hg2; cases hg2
    · exact h1 (hg2.trans e.symm)
  · intro e; exact own_blk h.oo h.r (by decide) (hg2.trans (congrArg some e))
  · have hb := (h.r.alloc o).grown hg (fun e => own_blk h.ro h.r (by decide) e.symm)
    rw [List.length_append, byL_snoc]
    exact own_set own4 (own_blk own4 hb (by decide)) _
theorem WSt.word_app {o : Obj} (h : WSt base a w bo bw br ws row fv vo vr) (x : List UInt8) (own4 : w4.ownsRow base 9 1 v4 (ws.length + 1) (strL ws ++ [.string (bs x)])) (hg : (w.alloc o).grownBy w4 vo.ownBlock) :
    WSt base a (w4.setCell ⟨bo, 0, none⟩ v4) bo bw br (ws ++ [x]) row fv v4 vr := by
  have hz := h.below.size
  have hb4 : Below base a w4 := (bel_alloc (by have := h.la; omega) h.below).grown hg (by simp; have := h.la; omega) (fun y hy => (World.ownsRow.lt h.oo y hy).1)
  refine ⟨hb4.setCell h.lo _, ?_, blk_over h.f hg (own_blk h.oo h.f (by decide)) (Blk.apart h.f h.o (by decide)) _, blk_over h.r hg (own_blk h.oo h.r (by decide)) (Blk.apart h.r h.o (by decide)) _, ?_, own_over h.ro hg (fun g hg2 => ⟨?_, ?_⟩) _, h.lo, h.lr, h.la⟩
  · exact (((h.o.alloc o).grown hg (fun e => own_blk h.oo h.o (by decide) e.symm))).set 0 v4
  · have hb := (h.o.alloc o).grown hg (fun e => own_blk h.oo h.o (by decide) e.symm)
    rw [List.length_append, strL_snoc]
    exact own_set own4 (own_blk own4 hb (by decide)) _
  · intro e
    rcases own_apart h.ro h.oo (by decide) with h1 | h1
    · rw [h1] at hg2; cases hg2
    · exact h1 (hg2.trans e.symm)
  · intro e; exact own_blk h.ro h.o (by decide) (hg2.trans (congrArg some e))
theorem WSt.row_cut {A : Option Addr} {n c : Nat} (h : WSt base a w bo bw br ws row fv vo (.slice A n c)) : WSt base a (w.setCell ⟨br, 0, none⟩ (.slice A 0 c)) bo bw br ws [] fv vo (.slice A 0 c) := by
  refine ⟨h.below.setCell h.lr _, h.o.far (Blk.apart h.o h.r (by decide)) _, h.f.far (Blk.apart h.f h.r (by decide)) _, h.r.set 0 _, own_set h.oo (own_blk h.oo h.r (by decide)) _, ?_, h.lo, h.lr, h.la⟩
  have h2 : w.ownsRow base 5 1 (.slice A 0 c) 0 [] := by
    rcases h.ro.2 with ⟨hv, _⟩ | ⟨g, cap, cur, hv, hg, hh, _, hcp, hcs, _⟩
    · injection hv with e1 e2 e3
      subst e1 e3
      exact World.ownsRow_nil _ _ _ _
    · injection hv with e1 e2 e3
      subst e1 e3
      exact ⟨by simp, .inr ⟨g, c, cur, rfl, hg, hh, Nat.zero_le _, hcp, hcs, by simp⟩⟩
  exact own_set h2 (own_blk h2 h.r (by decide)) _
end
theorem run_cuth {P : Program} {t e : TypeId} {s : Nat} (ht : P.underlying t = some (.slice e)) (hs : ∀ w, (sizeOf e).run P w = .ok s w) (g o len cap : Nat) (kh : IntKind) (h : Int) (m : Nat) (hh : h = m) (hm : m ≤ cap) (w : World) :
    (Instr.slice t (.slice (some ⟨g, o, none⟩) len cap) none (some (.int kh h)) none).run P w = .ok (.slice (some ⟨g, o, none⟩) m cap) w := by
  subst hh
  have he : P.elem t = e := by simp [Program.elem, ht]
  rw [run_slice_h w t (some ⟨g, o, none⟩) len cap (by rw [he]; exact ht) kh (m : Int) (by omega) (by omega), he, hs]
  simp [Result.andThen, sliced, add_none']
theorem own_bytes_take {w : World} {base n c m : Nat} {g : Nat} {l : List UInt8} (h : w.ownsRow base 5 1 (.slice (some ⟨g, 0, none⟩) n c) n (byL l)) (hn : l.length = n) (hm : m ≤ n) :
    ∀ wx : World, wx.heap[g]? = w.heap[g]? → (convert 29 9 (.slice (some ⟨g, 0, none⟩) m c)).run Tryz.prog wx = .ok (.string (bs (l.take m))) wx := by
  intro wx hb
  have hz : (bs (l.take m)).size = m := by rw [bs_size, List.length_take]; omega
  have hby : Lib.Bytes wx g 0 (bs (l.take m)) := by
    intro i hi
    rw [hz] at hi
    have hi' : i < l.length := by omega
    rw [Nat.zero_add, World.cell?_of_block (a := ⟨g, i, none⟩) hb, h.cellAt i (by omega), bs_at (l.take m) i (by rw [hz]; exact hi), List.getElem_take]
    exact byL_get (List.getElem?_eq_getElem hi')
  have kd := Lib.run_convert_whole (P := Tryz.prog) wx 29 5 9 Tryz.underlying29 Tryz.underlying5 Tryz.underlying9 g 0 (bs (l.take m)) hby c
  rw [hz] at kd
  exact kd
end Go.Proofs.YtcafklmbehoggaaGreatDoor.Sift
namespace Go.Proofs.YtcafklmbehoggaaGreatDoor.Sift
open Go.RowKit Go.Proofs.YtcafklmbehoggaaGreatDoor.Mem Go.Proofs.YtcafklmbehoggaaGreatDoor.Own Go.Proofs.YtcafklmbehoggaaGreatDoor.Canon
theorem tell_length (row : List UInt8) : (tell row).length ≤ row.length := by
  unfold tell
  split
  · simp
  · rename_i h
    have := List.length_pos_iff.2 h
    simp
    omega
end Go.Proofs.YtcafklmbehoggaaGreatDoor.Sift
namespace Go.Proofs.YtcafklmbehoggaaGreatDoor.Idx
open Go.Proofs.YtcafklmbehoggaaGreatDoor.Sift (words)
abbrev Str := List UInt8
theorem slt_irrefl (a : Str) : ¬ a < a := List.lt_irrefl a
theorem slt_trans {a b c : Str} (h : a < b) (k : b < c) : a < c := List.lt_trans h k
theorem slt_asymm {a b : Str} (h : a < b) : ¬ b < a := fun k => slt_irrefl a (slt_trans h k)
theorem slt_tri (a b : Str) : a < b ∨ a = b ∨ b < a := by
  by_cases h : a < b
  · exact .inl h
  · by_cases k : b < a
    · exact .inr (.inr k)
    · exact .inr (.inl (List.le_antisymm k h))
def Rising (l : List Str) : Prop := l.Pairwise (· < ·)
theorem rising_ext : ∀ {a b : List Str}, Rising a → Rising b → (∀ s, s ∈ a ↔ s ∈ b) → a = b
  | [], [], _, _, _ => rfl
  | [], y :: b, _, _, h => absurd ((h y).2 (by simp)) (by simp)
  | x :: a, [], _, _, h => absurd ((h x).1 (by simp)) (by simp)
  | x :: a, y :: b, ha, hb, h => by
    obtain ⟨hx, ha2⟩ := List.pairwise_cons.1 ha
    obtain ⟨hy, hb2⟩ := List.pairwise_cons.1 hb
    have hxy : x = y := by
      have h1 := (h x).1 (by simp)
      have h2 := (h y).2 (by simp)
      rw [List.mem_cons] at h1 h2
      rcases h1 with h1 | h1
      · exact h1
      · rcases h2 with h2 | h2
        · exact h2.symm
        · exact absurd (slt_trans (hy x h1) (hx y h2)) (slt_irrefl y)
    subst hxy
    refine congrArg (x :: ·) (rising_ext ha2 hb2 fun s => ⟨fun hs => ?_, fun hs => ?_⟩)
    · rcases List.mem_cons.1 ((h s).1 (List.mem_cons_of_mem _ hs)) with rfl | h'
      · exact absurd (hx s hs) (slt_irrefl s)
      · exact h'
    · rcases List.mem_cons.1 ((h s).2 (List.mem_cons_of_mem _ hs)) with rfl | h'
      · exact absurd (hy s hs) (slt_irrefl s)
      · exact h'
def putS : List Str → Str → List Str
  | [], s => [s]
  | x :: t, s => if x < s then x :: putS t s else if x = s then x :: t else s :: x :: t
theorem putS_mem (s u : Str) : ∀ l, u ∈ putS l s ↔ u ∈ l ∨ u = s
  | [] => by simp [putS]
  | x :: t => by
    rw [putS]
    split
    · rw [List.mem_cons, putS_mem s u t, List.mem_cons, or_assoc]
    · split
      · rename_i h
        subst h
        rw [List.mem_cons]
        exact ⟨.inl, fun h => h.elim id (fun h => .inl h)⟩
      · rw [List.mem_cons, or_comm]
theorem putS_rising (s : Str) : ∀ {l}, Rising l → Rising (putS l s)
  | [], _ => by simp [putS, Rising]
  | x :: t, h => by
    obtain ⟨hx, ht⟩ := List.pairwise_cons.1 h
    rw [putS]
    split
    · rename_i hlt
      refine List.pairwise_cons.2 ⟨fun u hu => ?_, putS_rising s ht⟩
      rcases (putS_mem s u t).1 hu with h' | rfl
      · exact hx u h'
      · exact hlt
    · split
      · exact h
      · rename_i h1 h2
        have hs : s < x := (slt_tri x s).elim (fun k => absurd k h1) (fun k => k.elim (fun k => absurd k h2) id)
        refine List.pairwise_cons.2 ⟨fun u hu => ?_, h⟩
        rcases List.mem_cons.1 hu with rfl | hu
        · exact hs
        · exact slt_trans hs (hx u hu)
def putAll (acc l : List Str) : List Str := l.foldl putS acc
theorem putAll_mem (u : Str) : ∀ (l acc : List Str), u ∈ putAll acc l ↔ u ∈ acc ∨ u ∈ l
  | [], acc => by simp [putAll]
  | x :: t, acc => by
    have ih := putAll_mem u t (putS acc x)
    unfold putAll at ih ⊢
    rw [List.foldl_cons, ih, putS_mem, List.mem_cons, or_assoc]
theorem putAll_rising : ∀ (l : List Str) {acc : List Str}, Rising acc → Rising (putAll acc l)
  | [], _, h => h
  | x :: t, _, h => putAll_rising t (putS_rising x h)
theorem of_sorted {l : List Str} (h : l.Pairwise (· ≤ ·)) : ∀ {m : List Str}, m.Sublist l → m.Pairwise (· ≠ ·) → Rising m := fun hs hn => by
  refine (List.Pairwise.and (h.sublist hs) hn).imp fun {a b} hab => ?_
  rcases slt_tri a b with k | k | k
  · exact k
  · exact absurd k hab.2
  · exact absurd k hab.1
def at64 : UInt8 := 64
def rowT (text source : List UInt8) : List Str := words text ++ (words source).map (at64 :: ·)
def terms (text source : List UInt8) : List Str := putAll [] (rowT text source)
theorem terms_rising (t s : List UInt8) : Rising (terms t s) := putAll_rising _ List.Pairwise.nil
theorem terms_mem (t s : List UInt8) (u : Str) : u ∈ terms t s ↔ u ∈ rowT t s := by unfold terms; rw [putAll_mem]; simp
def allT (ts : List (List Str)) : List Str := ts.foldl putAll []
theorem foldl_putAll_mem (u : Str) : ∀ (ts : List (List Str)) (acc : List Str), u ∈ ts.foldl putAll acc ↔ u ∈ acc ∨ ∃ t ∈ ts, u ∈ t
  | [], acc => by simp
  | t :: ts, acc => by
    rw [List.foldl_cons, foldl_putAll_mem u ts, putAll_mem, or_assoc]
    simp
theorem foldl_putAll_rising : ∀ (ts : List (List Str)) {acc : List Str}, Rising acc → Rising (ts.foldl putAll acc)
  | [], _, h => h
  | t :: ts, _, h => foldl_putAll_rising ts (putAll_rising t h)
theorem allT_mem (u : Str) (ts : List (List Str)) : u ∈ allT ts ↔ ∃ t ∈ ts, u ∈ t := by unfold allT; rw [foldl_putAll_mem]; simp
theorem allT_rising (ts : List (List Str)) : Rising (allT ts) := foldl_putAll_rising ts List.Pairwise.nil
def idsT (ts : List (List Str)) (u : Str) : List Nat := (List.range ts.length).filter fun i => (ts.getD i []).contains u
theorem idsT_snoc (ts : List (List Str)) (t : List Str) (u : Str) : idsT (ts ++ [t]) u = idsT ts u ++ (if t.contains u then [ts.length] else []) := by
  unfold idsT
  rw [List.length_append, List.length_singleton, List.range_succ, List.filter_append]
  congr 1
  · refine List.filter_congr fun i hi => ?_
    rw [List.mem_range] at hi
    simp only [List.getD_eq_getElem?_getD]
    rw [List.getElem?_append_left hi]
  · rw [List.filter_cons]
    simp
end Go.Proofs.YtcafklmbehoggaaGreatDoor.Idx
namespace Go.Proofs.YtcafklmbehoggaaGreatDoor.Sift
open Go.RowKit Go.Proofs.YtcafklmbehoggaaGreatDoor.Mem Go.Proofs.YtcafklmbehoggaaGreatDoor.Own Go.Proofs.YtcafklmbehoggaaGreatDoor.Canon
open Go.Proofs.YtcafklmbehoggaaGreatDoor.Idx (at64)
def TSplitPost (f : List UInt8 → List UInt8) (ws0 : List (List UInt8)) (s : ByteArray) (base : Nat) (a : World) (bo : Nat) (e : Ending) (w' : World) : Prop :=
  e = .returned (.tuple #[]) ∧ Below base a w' ∧ ∃ vo, Blk w' bo 48 #[vo] ∧ w'.ownsRow base 9 1 vo (ws0 ++ (words s.data.toList).map f).length (strL (ws0 ++ (words s.data.toList).map f))
theorem at_cat (x : List UInt8) : (ByteArray.mk #[64]) ++ bs x = bs (at64 :: x) := by
  apply ByteArray.ext
  rw [ByteArray.data_append]
  apply Array.ext'
  simp [bs, at64]
def idS (x : List UInt8) : List UInt8 := x
def atS (x : List UInt8) : List UInt8 := at64 :: x
set_option maxRecDepth 100000 in
theorem tadd1 (base : Nat) (a w : World) (bo bw br : Nat) (ws : List (List UInt8)) (row x : List UInt8) (fv vo vr : Value) (hl : ws.length ≤ 100000) (h : WSt base a w bo bw br ws row fv vo vr) :
    Calls Tryz.prog 149 #[.string (bs x), .pointer (some ⟨bo, 0, none⟩)] w fun e w' => e = .returned (.tuple #[]) ∧ ∃ vo', WSt base a w' bo bw br (ws ++ [idS x]) row fv vo' vr := by
  obtain ⟨j1, hj1, hz0, hz1, hz2⟩ := info_parts info_str
  obtain ⟨A, c, rfl⟩ := own_shape h.oo
  have c0 := h.o.cell 0
  have f0 := h.o.frozen 0
  simp only [List.getElem?_toArray, List.getElem?_cons_zero] at c0
  have hz := h.below.size
  have hla := h.la
  have H := Lib.hid h
  generalize hn : ws.length = n at *
  have HN := Lib.hid hn
  clear h hn
  go_enter Tryz.func149, Tryz.ntmps149
  go_wp2_with (at_builtin; refine wpList_app rfl (.tmp 3) (.tmp 5) 48 rfl base 9 j1 _ 1 16 Tryz.underlying48 hj1 hz0 hz1 hz2 rfl (by decide) _ _ _ (by rfl) ((HN.out ▸ H.out.oo).alloc _) _ 1 1 [.string (bs x)] (by rfl) (Src.of_blk (Blk.made _ _ _) 1 1 1 rfl) (by intro u hu; simp at hu; rcases hu with rfl; rfl) (by unfold maxLen; omega) (by omega) (by simp; omega) ?_; intro v4 w4 hown4 hg4 hat4; obtain ⟨A4, k4, rfl⟩ := own_shape hown4; have f4 : w4.frozen? ⟨bo, 0, none⟩ = false := (((H.out.o.alloc _).grown hg4 (fun e => own_blk H.out.oo H.out.o (by decide) e.symm))).frozen 0; have c4 : w4.cell? ⟨bo, 0, none⟩ = some (.slice A n c) := (((H.out.o.alloc _).grown hg4 (fun e => own_blk H.out.oo H.out.o (by decide) e.symm))).cell 0)
  refine bodyPost_end (results_none rfl _ _ _) rfl ?_
  exact ⟨rfl, _, H.out.word_app (idS x) (HN.out ▸ hown4) hg4⟩
def addT1 (bo : Nat) : Value := .func (.func 149) #[] #[.pointer (some ⟨bo, 0, none⟩)]
set_option maxRecDepth 100000 in
theorem ttell1_nil (base : Nat) (a w : World) (bo bw br : Nat) (ws : List (List UInt8)) (vo vr : Value)
    (h : WSt base a w bo bw br ws [] (addT1 bo) vo vr) :
    Calls Tryz.prog 201 #[.pointer (some ⟨br, 0, none⟩), .pointer (some ⟨bw, 0, none⟩)] w fun e w' => e = .returned (.tuple #[]) ∧ ∃ vo' vr', WSt base a w' bo bw br (ws ++ (tell []).map idS) [] (addT1 bo) vo' vr' := by
  rw [show (tell []).map idS = [] from rfl, List.append_nil]
  obtain ⟨A, c, rfl⟩ := own_shape h.ro
  have c0 := h.r.cell 0
  have f0 := h.r.frozen 0
  simp only [List.getElem?_toArray, List.getElem?_cons_zero, List.length_nil] at c0
  have H := Lib.hid h
  clear h
  go_enter Tryz.func201, Tryz.ntmps201
  go_wp2_with fail
  refine bodyPost_end (results_none rfl _ _ _) rfl ?_
  exact ⟨rfl, _, _, H.out.row_cut⟩
set_option maxRecDepth 100000 in
theorem ttell1_word (base : Nat) (a w : World) (bo bw br : Nat) (ws : List (List UInt8)) (row : List UInt8) (vo vr : Value) (hl : ws.length ≤ 100000) (hr : row.length ≤ 100000) (h0 : row ≠ [])
    (h : WSt base a w bo bw br ws row (addT1 bo) vo vr) :
    Calls Tryz.prog 201 #[.pointer (some ⟨br, 0, none⟩), .pointer (some ⟨bw, 0, none⟩)] w fun e w' => e = .returned (.tuple #[]) ∧ ∃ vo' vr', WSt base a w' bo bw br (ws ++ (tell row).map idS) [] (addT1 bo) vo' vr' := by
  have ht : (tell row).map idS = [idS (row.take 24)] := by rw [show tell row = [row.take 24] from if_neg h0]; rfl
  rw [ht]
  have hrl : 0 < row.length := List.length_pos_iff.2 h0
  obtain ⟨g, c, rfl⟩ : ∃ g c, vr = .slice (some ⟨g, 0, none⟩) row.length c := by
    obtain ⟨g, c, hv, _⟩ := h.ro.form hrl
    exact ⟨g, c, hv⟩
  have c0 := h.r.cell 0
  have f0 := h.r.frozen 0
  have c1 := h.f.cell 0
  simp only [List.getElem?_toArray, List.getElem?_cons_zero] at c0 c1
  have D := tadd1 base a w.drew bo bw br ws row (row.take 24) _ _ _ hl h.drew
  obtain ⟨M, hM⟩ : ∃ M, M = min row.length 24 := ⟨_, rfl⟩
  have kd := own_bytes_take (m := M) h.ro rfl (by omega) w.drew rfl
  have KD : ∀ (w' : World) base a bo bw br ws fv vo, WSt base a w' bo bw br ws row fv vo (.slice (some ⟨g, 0, none⟩) row.length c) → (convert 29 9 (.slice (some ⟨g, 0, none⟩) M c)).run Tryz.prog w' = .ok (.string (bs (row.take M))) w' := fun w' _ _ _ _ _ _ _ _ h' => own_bytes_take (m := M) h'.ro rfl (by omega) w' rfl
  have htm : row.take M = row.take 24 := by
    rw [hM]
    by_cases h24 : row.length ≤ 24
    · rw [Nat.min_eq_left h24, List.take_of_length_le (by omega), List.take_of_length_le h24]
    · rw [Nat.min_eq_right (by omega)]
  rw [htm] at kd KD
  have hmn : min (row.length : Int) 24 = (M : Int) := by omega
  have hwf := (own_wf h.ro).2
  have ks := fun wx => run_cuth (P := Tryz.prog) (t := 29) (s := 1) Tryz.underlying29 (fun _ => by kernel_rfl) g 0 row.length c .i64 (M : Int) M rfl (by omega) wx
  have H := Lib.hid h
  have D := Lib.hid D
  generalize hn : row.length = n at *
  have g1 : decide (0 < n) = true := by simp; omega
  clear h hn h0 ht hM htm
  unfold addT1 at c1
  go_enter Tryz.func201, Tryz.ntmps201
  go_upto_region 1 with fail
  go_region_held3 (fun wx => wx.cell? ⟨br, 0, none⟩ = some (.slice (some ⟨g, 0, none⟩) n c) ∧ wx.cell? ⟨bw, 0, none⟩ = some (.func (.func 149) #[] #[.pointer (some ⟨bo, 0, none⟩)]) ∧ (convert 29 9 (.slice (some ⟨g, 0, none⟩) M c)).run Tryz.prog wx = .ok (.string (bs (row.take 24))) wx) (first | exact ⟨c0, c1, kd⟩ | exact k0) (first | (go_at_call 149; (with_reducible refine D.out.mono ?_); rintro e w' ⟨rfl, vo', h'⟩; have k0 : w'.cell? ⟨br, 0, none⟩ = some (.slice (some ⟨g, 0, none⟩) n c) ∧ w'.cell? ⟨bw, 0, none⟩ = some (.func (.func 149) #[] #[.pointer (some ⟨bo, 0, none⟩)]) ∧ (convert 29 9 (.slice (some ⟨g, 0, none⟩) M c)).run Tryz.prog w' = .ok (.string (bs (row.take 24))) w' := ⟨h'.r.cell 0, h'.f.cell 0, KD w' _ _ _ _ _ _ _ _ h'⟩))
  obtain ⟨c2, c3, _⟩ := k0
  have f2 := h'.r.frozen 0
  have H' := Lib.hid h'
  clear h' D H c0 f0 c1
  go_wp2_with fail
  refine bodyPost_end (results_none rfl _ _ _) rfl ?_
  exact ⟨rfl, _, _, H'.out.row_cut⟩
theorem ttell1_any (base : Nat) (a w : World) (bo bw br : Nat) (ws : List (List UInt8)) (row : List UInt8) (vo vr : Value) (hl : ws.length ≤ 100000) (hr : row.length ≤ 100000)
    (h : WSt base a w bo bw br ws row (addT1 bo) vo vr) :
    Calls Tryz.prog 201 #[.pointer (some ⟨br, 0, none⟩), .pointer (some ⟨bw, 0, none⟩)] w fun e w' => e = .returned (.tuple #[]) ∧ ∃ vo' vr', WSt base a w' bo bw br (ws ++ (tell row).map idS) [] (addT1 bo) vo' vr' := by
  by_cases h0 : row = []
  · subst h0; exact ttell1_nil base a w bo bw br ws vo vr h
  · exact ttell1_word base a w bo bw br ws row vo vr hl hr h0 h
set_option maxHeartbeats 1000000 in
set_option maxRecDepth 100000 in
theorem tsplit1_any (base : Nat) (a w : World) (bo : Nat) (s : ByteArray) (ws0 : List (List UInt8)) (v0 : Value) (hs : s.size ≤ 100000) (h0 : ws0.length ≤ 50000) (hs2 : s.size ≤ 50000) (hb : Below base a w) (hla : base ≤ a.heap.size) (ho : Blk w bo 48 #[v0]) (hw0 : w.ownsRow base 9 1 v0 ws0.length (strL ws0)) (hlo : base ≤ bo) :
    Calls Tryz.prog 148 #[.string s, addT1 bo] w (TSplitPost idS ws0 s base a bo) := by
  obtain ⟨j0, hj0, hy0, hy1, hy2⟩ := info_parts info_u8
  have hlen := Lib.size_eq s
  obtain ⟨l, hl⟩ : ∃ l, l = s.data.toList := ⟨_, rfl⟩
  have HL := Lib.hid hl
  rw [← hl] at hlen
  have HLEN := Lib.hid hlen
  unfold TSplitPost words
  rw [← hl]
  have hz := hb.size
  have HB := Lib.hid hb
  have HO := Lib.hid ho
  have HW0 := Lib.hid hw0
  clear hl hlen hb ho hw0
  unfold addT1
  go_enter Tryz.func148, Tryz.ntmps148
  go_wp2_with fail
  go_loopw [12] (fun i wx => ∃ (k : Nat) (ws : List (List UInt8)) (row : List UInt8) (vo vr : Value), k ≤ s.size ∧ i = .int .i64 k ∧ Hid (ws.length + row.length ≤ ws0.length + k) ∧ Hid (ws ++ (split row (l.drop k)).map idS = ws0 ++ (split [] l).map idS) ∧ Hid (WSt base a wx bo w.heap.size (w.heap.size + 1) ws row (addT1 bo) vo vr)) (fun i _ => s.size - (intOf i).toNat)
  case atStart =>
    refine ⟨0, ws0, [], v0, .slice none 0 0, by omega, rfl, (by show _ ≤ _; simp), by show _ = _; simp, ?_⟩
    refine ⟨bel_alloc (by simp; omega) (bel_alloc (by omega) HB.out), (HO.out.alloc _).alloc _, (Blk.made _ _ _).alloc _, Blk.made_at _ _ _ (by simp), (HW0.out.alloc _).alloc _, World.ownsRow_nil _ _ _ _, hlo, by omega, hla⟩
  case round =>
    obtain ⟨k, ws, row, vo, vr, hk, rfl, hq, hW, H⟩ := hrel
    have hqq := hq.out
    by_cases hlt : k < s.size
    · have hd := drop_at hlt
      rw [← HL.out] at hd
      have hw := hW.out
      rw [hd, split] at hw
      have hu := UInt8.toNat_lt s[k]
      have hlb := letB_nat s[k]
      have D := fun wx => wletter_any s[k].toNat hu wx
      have x0 : (0 : Int) ≤ (k : Int) := by omega
      have x1 : (k : Int) < (s.size : Int) := by omega
      cases hc : letB s[k]
      · rw [hc] at hw hlb
        rw [if_neg (by simp), List.map_append, ← List.append_assoc] at hw
        rw [← hlb] at D
        have D := Lib.hid D
        have HW2 := Lib.hid hw
        have T := Lib.hid (ttell1_any base a wr bo w.heap.size (w.heap.size + 1) ws row vo vr (by omega) (by omega) H.out)
        have htl := tell_length row
        clear hd hw hlb hu hc hW
        go_wp2_with fail
        refine (D.out _).mono ?_
        rintro e w1 ⟨rfl, rfl⟩
        go_wp2_with fail
        refine T.out.mono ?_
        rintro e w1 ⟨rfl, vo', vr', h'⟩
        have H' := Lib.hid h'
        clear T D h' H
        go_wp2_with fail
        go_roundw
        case measure => go_light; simp [intOf]; omega
        case rel => go_light; exact ⟨k + 1, ws ++ (tell row).map idS, [], vo', vr', by omega, by go_num, by show _ ≤ _; rw [List.length_append, List.length_nil, List.length_map]; omega, HW2.out, H'.out⟩
      · rw [hc] at hw hlb
        rw [if_pos rfl] at hw
        rw [← hlb] at D
        obtain ⟨A, c, rfl⟩ := own_shape H.out.ro
        have c0 := H.out.r.cell 0
        simp only [List.getElem?_toArray, List.getElem?_cons_zero] at c0
        have hsn := smallB_nat s[k]
        have happ := fun w4 v4 o own4 hg => H.out.row_app (w4 := w4) (v4 := v4) (o := o) (smallB (s[k]'hlt)) own4 hg
        have HA := Lib.hid happ
        rw [← hsn] at D
        generalize smallB s[k] = x at *
        have D := Lib.hid D
        have HW2 := Lib.hid hw
        have hwz := H.out.below.size
        have HRO := Lib.hid H.out.ro
        have hrr := H.out.r
        have HRR := Lib.hid hrr
        clear hd hw hlb hu hc hW happ hsn hrr
        generalize hn : row.length = n at *
        have HN := Lib.hid hn
        clear hn
        go_wp2_with fail
        refine (D.out _).mono ?_
        rintro e w1 ⟨rfl, rfl⟩
        go_wp2_with (at_builtin; refine wpList_app rfl (.tmp 23) (.tmp 25) 29 rfl base 5 j0 _ 1 1 Tryz.underlying29 hj0 hy0 hy1 hy2 rfl (by decide) _ _ _ (by rfl) (HRO.out.alloc _) _ 1 1 [.int .u8 x.toNat] (by rfl) (Src.of_blk (Blk.made _ _ _) 1 1 1 rfl) (by intro u hu; simp at hu; rcases hu with rfl; rfl) (by unfold maxLen; omega) (by omega) (by simp; omega) ?_; intro v4 w4 hown4 hg4 hat4; obtain ⟨A4, k4, rfl⟩ := own_shape hown4; have f4 : w4.frozen? ⟨w.heap.size + 1, 0, none⟩ = false := (((HRR.out.alloc _).grown hg4 (fun e => own_blk HRO.out HRR.out (by decide) e.symm))).frozen 0; have c4 : w4.cell? ⟨w.heap.size + 1, 0, none⟩ = some (.slice A n c) := (((HRR.out.alloc _).grown hg4 (fun e => own_blk HRO.out HRR.out (by decide) e.symm))).cell 0)
        go_roundw
        case measure => go_light; simp [intOf]; omega
        case rel =>
          go_light
          refine ⟨k + 1, ws, row ++ [x], vo, _, by omega, by go_num, ?_, HW2.out, HA.out w4 _ _ (HN.out ▸ hown4) hg4⟩
          show _ ≤ _; rw [List.length_append, HN.out]; simp; omega
    · obtain rfl : k = s.size := by omega
      have hw := hW.out
      rw [List.drop_of_length_le (by rw [HLEN.out]; exact Nat.le_refl _), split] at hw
      have T := Lib.hid (ttell1_any base a wr bo w.heap.size (w.heap.size + 1) ws row vo vr (by omega) (by omega) H.out)
      have HW2 := Lib.hid hw
      clear hw hW H
      go_wp2_with fail
      refine T.out.mono ?_
      rintro e w1 ⟨rfl, vo', vr', h'⟩
      have H' := Lib.hid h'
      clear T h'
      go_wp2_with fail
      refine bodyPost_end (results_none rfl _ _ _) rfl ?_
      refine ⟨rfl, H'.out.below, vo', H'.out.o, ?_⟩
      show World.ownsRow _ _ _ _ _ (ws0 ++ (split [] l).map idS).length (strL (ws0 ++ (split [] l).map idS))
      rw [← HW2.out]
      exact H'.out.oo
set_option maxRecDepth 100000 in
theorem tadd2 (base : Nat) (a w : World) (bo bw br : Nat) (ws : List (List UInt8)) (row x : List UInt8) (fv vo vr : Value) (hl : ws.length ≤ 100000) (hx : x.length ≤ 100000) (h : WSt base a w bo bw br ws row fv vo vr) :
    Calls Tryz.prog 150 #[.string (bs x), .pointer (some ⟨bo, 0, none⟩)] w fun e w' => e = .returned (.tuple #[]) ∧ ∃ vo', WSt base a w' bo bw br (ws ++ [atS x]) row fv vo' vr := by
  obtain ⟨j1, hj1, hz0, hz1, hz2⟩ := info_parts info_str
  obtain ⟨A, c, rfl⟩ := own_shape h.oo
  have c0 := h.o.cell 0
  have f0 := h.o.frozen 0
  simp only [List.getElem?_toArray, List.getElem?_cons_zero] at c0
  have hz := h.below.size
  have hla := h.la
  have H := Lib.hid h
  have kc := at_cat x
  have hxs : (bs x).size ≤ 100000 := by rw [bs_size]; exact hx
  clear hx
  generalize hn : ws.length = n at *
  have HN := Lib.hid hn
  clear h hn
  go_enter Tryz.func150, Tryz.ntmps150
  go_wp2_with (at_builtin; refine wpList_app rfl (.tmp 3) (.tmp 6) 48 rfl base 9 j1 _ 1 16 Tryz.underlying48 hj1 hz0 hz1 hz2 rfl (by decide) _ _ _ (by rfl) ((HN.out ▸ H.out.oo).alloc _) _ 1 1 [.string (bs (at64 :: x))] (by rfl) (Src.of_blk (Blk.made _ _ _) 1 1 1 rfl) (by intro u hu; simp at hu; rcases hu with rfl; rfl) (by unfold maxLen; omega) (by omega) (by simp; omega) ?_; intro v4 w4 hown4 hg4 hat4; obtain ⟨A4, k4, rfl⟩ := own_shape hown4; have f4 : w4.frozen? ⟨bo, 0, none⟩ = false := (((H.out.o.alloc _).grown hg4 (fun e => own_blk H.out.oo H.out.o (by decide) e.symm))).frozen 0; have c4 : w4.cell? ⟨bo, 0, none⟩ = some (.slice A n c) := (((H.out.o.alloc _).grown hg4 (fun e => own_blk H.out.oo H.out.o (by decide) e.symm))).cell 0)
  refine bodyPost_end (results_none rfl _ _ _) rfl ?_
  exact ⟨rfl, _, H.out.word_app (atS x) (HN.out ▸ hown4) hg4⟩
def addT2 (bo : Nat) : Value := .func (.func 150) #[] #[.pointer (some ⟨bo, 0, none⟩)]
set_option maxRecDepth 100000 in
theorem ttell2_nil (base : Nat) (a w : World) (bo bw br : Nat) (ws : List (List UInt8)) (vo vr : Value)
    (h : WSt base a w bo bw br ws [] (addT2 bo) vo vr) :
    Calls Tryz.prog 201 #[.pointer (some ⟨br, 0, none⟩), .pointer (some ⟨bw, 0, none⟩)] w fun e w' => e = .returned (.tuple #[]) ∧ ∃ vo' vr', WSt base a w' bo bw br (ws ++ (tell []).map atS) [] (addT2 bo) vo' vr' := by
  rw [show (tell []).map atS = [] from rfl, List.append_nil]
  obtain ⟨A, c, rfl⟩ := own_shape h.ro
  have c0 := h.r.cell 0
  have f0 := h.r.frozen 0
  simp only [List.getElem?_toArray, List.getElem?_cons_zero, List.length_nil] at c0
  have H := Lib.hid h
  clear h
  go_enter Tryz.func201, Tryz.ntmps201
  go_wp2_with fail
  refine bodyPost_end (results_none rfl _ _ _) rfl ?_
  exact ⟨rfl, _, _, H.out.row_cut⟩
set_option maxRecDepth 100000 in
theorem ttell2_word (base : Nat) (a w : World) (bo bw br : Nat) (ws : List (List UInt8)) (row : List UInt8) (vo vr : Value) (hl : ws.length ≤ 100000) (hr : row.length ≤ 100000) (h0 : row ≠ [])
    (h : WSt base a w bo bw br ws row (addT2 bo) vo vr) :
    Calls Tryz.prog 201 #[.pointer (some ⟨br, 0, none⟩), .pointer (some ⟨bw, 0, none⟩)] w fun e w' => e = .returned (.tuple #[]) ∧ ∃ vo' vr', WSt base a w' bo bw br (ws ++ (tell row).map atS) [] (addT2 bo) vo' vr' := by
  have ht : (tell row).map atS = [atS (row.take 24)] := by rw [show tell row = [row.take 24] from if_neg h0]; rfl
  rw [ht]
  have hrl : 0 < row.length := List.length_pos_iff.2 h0
  obtain ⟨g, c, rfl⟩ : ∃ g c, vr = .slice (some ⟨g, 0, none⟩) row.length c := by
    obtain ⟨g, c, hv, _⟩ := h.ro.form hrl
    exact ⟨g, c, hv⟩
  have c0 := h.r.cell 0
  have f0 := h.r.frozen 0
  have c1 := h.f.cell 0
  simp only [List.getElem?_toArray, List.getElem?_cons_zero] at c0 c1
  have D := tadd2 base a w.drew bo bw br ws row (row.take 24) _ _ _ hl (by rw [List.length_take]; omega) h.drew
  obtain ⟨M, hM⟩ : ∃ M, M = min row.length 24 := ⟨_, rfl⟩
  have kd := own_bytes_take (m := M) h.ro rfl (by omega) w.drew rfl
  have KD : ∀ (w' : World) base a bo bw br ws fv vo, WSt base a w' bo bw br ws row fv vo (.slice (some ⟨g, 0, none⟩) row.length c) → (convert 29 9 (.slice (some ⟨g, 0, none⟩) M c)).run Tryz.prog w' = .ok (.string (bs (row.take M))) w' := fun w' _ _ _ _ _ _ _ _ h' => own_bytes_take (m := M) h'.ro rfl (by omega) w' rfl
  have htm : row.take M = row.take 24 := by
    rw [hM]
    by_cases h24 : row.length ≤ 24
    · rw [Nat.min_eq_left h24, List.take_of_length_le (by omega), List.take_of_length_le h24]
    · rw [Nat.min_eq_right (by omega)]
  rw [htm] at kd KD
  have hmn : min (row.length : Int) 24 = (M : Int) := by omega
  have hwf := (own_wf h.ro).2
  have ks := fun wx => run_cuth (P := Tryz.prog) (t := 29) (s := 1) Tryz.underlying29 (fun _ => by kernel_rfl) g 0 row.length c .i64 (M : Int) M rfl (by omega) wx
  have H := Lib.hid h
  have D := Lib.hid D
  generalize hn : row.length = n at *
  have g1 : decide (0 < n) = true := by simp; omega
  clear h hn h0 ht hM htm
  unfold addT2 at c1
  go_enter Tryz.func201, Tryz.ntmps201
  go_upto_region 1 with fail
  go_region_held3 (fun wx => wx.cell? ⟨br, 0, none⟩ = some (.slice (some ⟨g, 0, none⟩) n c) ∧ wx.cell? ⟨bw, 0, none⟩ = some (.func (.func 150) #[] #[.pointer (some ⟨bo, 0, none⟩)]) ∧ (convert 29 9 (.slice (some ⟨g, 0, none⟩) M c)).run Tryz.prog wx = .ok (.string (bs (row.take 24))) wx) (first | exact ⟨c0, c1, kd⟩ | exact k0) (first | (go_at_call 150; (with_reducible refine D.out.mono ?_); rintro e w' ⟨rfl, vo', h'⟩; have k0 : w'.cell? ⟨br, 0, none⟩ = some (.slice (some ⟨g, 0, none⟩) n c) ∧ w'.cell? ⟨bw, 0, none⟩ = some (.func (.func 150) #[] #[.pointer (some ⟨bo, 0, none⟩)]) ∧ (convert 29 9 (.slice (some ⟨g, 0, none⟩) M c)).run Tryz.prog w' = .ok (.string (bs (row.take 24))) w' := ⟨h'.r.cell 0, h'.f.cell 0, KD w' _ _ _ _ _ _ _ _ h'⟩))
  obtain ⟨c2, c3, _⟩ := k0
  have f2 := h'.r.frozen 0
  have H' := Lib.hid h'
  clear h' D H c0 f0 c1
  go_wp2_with fail
  refine bodyPost_end (results_none rfl _ _ _) rfl ?_
  exact ⟨rfl, _, _, H'.out.row_cut⟩
theorem ttell2_any (base : Nat) (a w : World) (bo bw br : Nat) (ws : List (List UInt8)) (row : List UInt8) (vo vr : Value) (hl : ws.length ≤ 100000) (hr : row.length ≤ 100000)
    (h : WSt base a w bo bw br ws row (addT2 bo) vo vr) :
    Calls Tryz.prog 201 #[.pointer (some ⟨br, 0, none⟩), .pointer (some ⟨bw, 0, none⟩)] w fun e w' => e = .returned (.tuple #[]) ∧ ∃ vo' vr', WSt base a w' bo bw br (ws ++ (tell row).map atS) [] (addT2 bo) vo' vr' := by
  by_cases h0 : row = []
  · subst h0; exact ttell2_nil base a w bo bw br ws vo vr h
  · exact ttell2_word base a w bo bw br ws row vo vr hl hr h0 h
set_option maxHeartbeats 1000000 in
set_option maxRecDepth 100000 in
theorem tsplit2_any (base : Nat) (a w : World) (bo : Nat) (s : ByteArray) (ws0 : List (List UInt8)) (v0 : Value) (hs : s.size ≤ 100000) (h0 : ws0.length ≤ 50000) (hs2 : s.size ≤ 50000) (hb : Below base a w) (hla : base ≤ a.heap.size) (ho : Blk w bo 48 #[v0]) (hw0 : w.ownsRow base 9 1 v0 ws0.length (strL ws0)) (hlo : base ≤ bo) :
    Calls Tryz.prog 148 #[.string s, addT2 bo] w (TSplitPost atS ws0 s base a bo) := by
  obtain ⟨j0, hj0, hy0, hy1, hy2⟩ := info_parts info_u8
  have hlen := Lib.size_eq s
  obtain ⟨l, hl⟩ : ∃ l, l = s.data.toList := ⟨_, rfl⟩
  have HL := Lib.hid hl
  rw [← hl] at hlen
  have HLEN := Lib.hid hlen
  unfold TSplitPost words
  rw [← hl]
  have hz := hb.size
  have HB := Lib.hid hb
  have HO := Lib.hid ho
  have HW0 := Lib.hid hw0
  clear hl hlen hb ho hw0
  unfold addT2
  go_enter Tryz.func148, Tryz.ntmps148
  go_wp2_with fail
  go_loopw [12] (fun i wx => ∃ (k : Nat) (ws : List (List UInt8)) (row : List UInt8) (vo vr : Value), k ≤ s.size ∧ i = .int .i64 k ∧ Hid (ws.length + row.length ≤ ws0.length + k) ∧ Hid (ws ++ (split row (l.drop k)).map atS = ws0 ++ (split [] l).map atS) ∧ Hid (WSt base a wx bo w.heap.size (w.heap.size + 1) ws row (addT2 bo) vo vr)) (fun i _ => s.size - (intOf i).toNat)
  case atStart =>
    refine ⟨0, ws0, [], v0, .slice none 0 0, by omega, rfl, (by show _ ≤ _; simp), by show _ = _; simp, ?_⟩
    refine ⟨bel_alloc (by simp; omega) (bel_alloc (by omega) HB.out), (HO.out.alloc _).alloc _, (Blk.made _ _ _).alloc _, Blk.made_at _ _ _ (by simp), (HW0.out.alloc _).alloc _, World.ownsRow_nil _ _ _ _, hlo, by omega, hla⟩
  case round =>
    obtain ⟨k, ws, row, vo, vr, hk, rfl, hq, hW, H⟩ := hrel
    have hqq := hq.out
    by_cases hlt : k < s.size
    · have hd := drop_at hlt
      rw [← HL.out] at hd
      have hw := hW.out
      rw [hd, split] at hw
      have hu := UInt8.toNat_lt s[k]
      have hlb := letB_nat s[k]
      have D := fun wx => wletter_any s[k].toNat hu wx
      have x0 : (0 : Int) ≤ (k : Int) := by omega
      have x1 : (k : Int) < (s.size : Int) := by omega
      cases hc : letB s[k]
      · rw [hc] at hw hlb
        rw [if_neg (by simp), List.map_append, ← List.append_assoc] at hw
        rw [← hlb] at D
        have D := Lib.hid D
        have HW2 := Lib.hid hw
        have T := Lib.hid (ttell2_any base a wr bo w.heap.size (w.heap.size + 1) ws row vo vr (by omega) (by omega) H.out)
        have htl := tell_length row
        clear hd hw hlb hu hc hW
        go_wp2_with fail
        refine (D.out _).mono ?_
        rintro e w1 ⟨rfl, rfl⟩
        go_wp2_with fail
        refine T.out.mono ?_
        rintro e w1 ⟨rfl, vo', vr', h'⟩
        have H' := Lib.hid h'
        clear T D h' H
        go_wp2_with fail
        go_roundw
        case measure => go_light; simp [intOf]; omega
        case rel => go_light; exact ⟨k + 1, ws ++ (tell row).map atS, [], vo', vr', by omega, by go_num, by show _ ≤ _; rw [List.length_append, List.length_nil, List.length_map]; omega, HW2.out, H'.out⟩
      · rw [hc] at hw hlb
        rw [if_pos rfl] at hw
        rw [← hlb] at D
        obtain ⟨A, c, rfl⟩ := own_shape H.out.ro
        have c0 := H.out.r.cell 0
        simp only [List.getElem?_toArray, List.getElem?_cons_zero] at c0
        have hsn := smallB_nat s[k]
        have happ := fun w4 v4 o own4 hg => H.out.row_app (w4 := w4) (v4 := v4) (o := o) (smallB (s[k]'hlt)) own4 hg
        have HA := Lib.hid happ
        rw [← hsn] at D
        generalize smallB s[k] = x at *
        have D := Lib.hid D
        have HW2 := Lib.hid hw
        have hwz := H.out.below.size
        have HRO := Lib.hid H.out.ro
        have hrr := H.out.r
        have HRR := Lib.hid hrr
        clear hd hw hlb hu hc hW happ hsn hrr
        generalize hn : row.length = n at *
        have HN := Lib.hid hn
        clear hn
        go_wp2_with fail
        refine (D.out _).mono ?_
        rintro e w1 ⟨rfl, rfl⟩
        go_wp2_with (at_builtin; refine wpList_app rfl (.tmp 23) (.tmp 25) 29 rfl base 5 j0 _ 1 1 Tryz.underlying29 hj0 hy0 hy1 hy2 rfl (by decide) _ _ _ (by rfl) (HRO.out.alloc _) _ 1 1 [.int .u8 x.toNat] (by rfl) (Src.of_blk (Blk.made _ _ _) 1 1 1 rfl) (by intro u hu; simp at hu; rcases hu with rfl; rfl) (by unfold maxLen; omega) (by omega) (by simp; omega) ?_; intro v4 w4 hown4 hg4 hat4; obtain ⟨A4, k4, rfl⟩ := own_shape hown4; have f4 : w4.frozen? ⟨w.heap.size + 1, 0, none⟩ = false := (((HRR.out.alloc _).grown hg4 (fun e => own_blk HRO.out HRR.out (by decide) e.symm))).frozen 0; have c4 : w4.cell? ⟨w.heap.size + 1, 0, none⟩ = some (.slice A n c) := (((HRR.out.alloc _).grown hg4 (fun e => own_blk HRO.out HRR.out (by decide) e.symm))).cell 0)
        go_roundw
        case measure => go_light; simp [intOf]; omega
        case rel =>
          go_light
          refine ⟨k + 1, ws, row ++ [x], vo, _, by omega, by go_num, ?_, HW2.out, HA.out w4 _ _ (HN.out ▸ hown4) hg4⟩
          show _ ≤ _; rw [List.length_append, HN.out]; simp; omega
    · obtain rfl : k = s.size := by omega
      have hw := hW.out
      rw [List.drop_of_length_le (by rw [HLEN.out]; exact Nat.le_refl _), split] at hw
      have T := Lib.hid (ttell2_any base a wr bo w.heap.size (w.heap.size + 1) ws row vo vr (by omega) (by omega) H.out)
      have HW2 := Lib.hid hw
      clear hw hW H
      go_wp2_with fail
      refine T.out.mono ?_
      rintro e w1 ⟨rfl, vo', vr', h'⟩
      have H' := Lib.hid h'
      clear T h'
      go_wp2_with fail
      refine bodyPost_end (results_none rfl _ _ _) rfl ?_
      refine ⟨rfl, H'.out.below, vo', H'.out.o, ?_⟩
      show World.ownsRow _ _ _ _ _ (ws0 ++ (split [] l).map atS).length (strL (ws0 ++ (split [] l).map atS))
      rw [← HW2.out]
      exact H'.out.oo
end Go.Proofs.YtcafklmbehoggaaGreatDoor.Sift
