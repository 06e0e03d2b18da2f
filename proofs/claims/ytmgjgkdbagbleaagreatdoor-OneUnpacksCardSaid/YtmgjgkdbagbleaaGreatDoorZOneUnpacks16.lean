/-
  Plain functions for the tokens' pieces, and their laws: no program in sight. How often symbols are in tokens: the plain function and its laws. Plain: bytes as tokens, and back (chapter 10).
-/
import Derived.WalkKit
namespace Go.Proofs.YtmgjgkdbagbleaaGreatDoor.Toks
open Go.RowKit
def lg (v : Int) : Int := ((Nat.log2 v.toNat : Nat) : Int)
def pw (b : Int) : Int := ((2 ^ b.toNat : Nat) : Int)
theorem lg_nonneg (v : Int) : 0 ≤ lg v := by unfold lg; omega
theorem pw_pos (b : Int) : 1 ≤ pw b := by
  unfold pw
  have : 0 < 2 ^ b.toNat := Nat.two_pow_pos _
  omega
theorem pw_lg_le (v : Int) (h : 1 ≤ v) : pw (lg v) ≤ v := by
  unfold pw lg
  have := Nat.log2_self_le (n := v.toNat) (by omega)
  rw [Int.toNat_natCast]
  omega
theorem lt_pw_lg (v : Int) (h : 1 ≤ v) : v < 2 * pw (lg v) := by
  unfold pw lg
  have := Nat.lt_log2_self (n := v.toNat)
  rw [Int.toNat_natCast]
  rw [Nat.pow_succ] at this
  omega
theorem pw_succ (b : Int) (h : 0 ≤ b) : pw (b + 1) = 2 * pw b := by
  unfold pw
  rw [show (b + 1).toNat = b.toNat + 1 from by omega, Nat.pow_succ]
  omega
theorem pw_mono (a b : Int) (h : a ≤ b) : pw a ≤ pw b := by
  unfold pw
  have := Nat.pow_le_pow_right (n := 2) (by omega) (show a.toNat ≤ b.toNat by omega)
  omega
theorem lg_unique (v b : Int) (hb : 0 ≤ b) (h1 : pw b ≤ v) (h2 : v < 2 * pw b) : lg v = b := by
  have hp := pw_pos b
  have h3 := pw_lg_le v (by omega)
  have h4 := lt_pw_lg v (by omega)
  have hl := lg_nonneg v
  rcases Int.lt_trichotomy (lg v) b with h | h | h
  · have := pw_mono (lg v + 1) b (by omega)
    rw [pw_succ _ hl] at this
    omega
  · exact h
  · have := pw_mono (b + 1) (lg v) (by omega)
    rw [pw_succ _ hb] at this
    omega
def mayB (lit len dist : Int) : Bool :=
  if len = 0 then decide (dist = 0) else decide (lit = 0 ∧ 3 ≤ len ∧ len ≤ 257 ∧ 1 ≤ dist ∧ dist ≤ 4095)
structure Pc where
  sym : Int
  len : Int
  dist : Int
  far : Int
structure Tk where
  lit : Int
  len : Int
  dist : Int
def Pc.val (p : Pc) : Value := .agg #[.int .i64 p.sym, .int .i64 p.len, .int .i64 p.dist, .int .i64 p.far]
def Tk.val (t : Tk) : Value := .agg #[.int .u8 t.lit, .int .i64 t.len, .int .i64 t.dist]
def splitP (t : Tk) : Pc :=
  if mayB t.lit t.len t.dist = true then
    if t.len = 0 then ⟨t.lit, 0, 0, 0⟩ else ⟨257 + lg (t.len - 2), t.len - 2 - pw (lg (t.len - 2)), lg t.dist, t.dist - pw (lg t.dist)⟩
  else ⟨0, 0, 0, 0⟩
def litB (p : Pc) : Bool := decide (0 ≤ p.sym ∧ p.sym < 256 ∧ p.len = 0 ∧ p.dist = 0 ∧ p.far = 0)
def matchB (p : Pc) : Bool :=
  decide (257 ≤ p.sym ∧ p.sym < 265 ∧ 0 ≤ p.dist ∧ p.dist < 12 ∧ 0 ≤ p.len ∧ p.len < pw (p.sym - 257) ∧ 0 ≤ p.far ∧ p.far < pw p.dist)
def joinT (p : Pc) : Tk :=
  if litB p = true then ⟨p.sym, 0, 0⟩ else if matchB p = true then ⟨0, 2 + pw (p.sym - 257) + p.len, pw p.dist + p.far⟩ else ⟨0, 0, 0⟩
def joinE (p : Pc) : Int := if litB p = true then 0 else if matchB p = true then 0 else 7
theorem pw_12 : pw 12 = 4096 := by decide
end Go.Proofs.YtmgjgkdbagbleaaGreatDoor.Toks
namespace Go.Proofs.YtmgjgkdbagbleaaGreatDoor.Toks
def bump (l : List Int) (i : Nat) : List Int := l.set i (l.getD i 0 + 1)
def cntStep (st : List Int × List Int) (t : Tk) : List Int × List Int :=
  (bump st.1 (splitP t).sym.toNat, if t.len = 0 then st.2 else bump st.2 (splitP t).dist.toNat)
def cnts (ts : List Tk) : List Int × List Int := ts.foldl cntStep (List.replicate 265 0, List.replicate 12 0)
def symsOf (ts : List Tk) : List Int := bump (cnts ts).1 256
def farsOf (ts : List Tk) : List Int := (cnts ts).2
def allOk (ts : List Tk) : Bool := ts.all fun t => mayB t.lit t.len t.dist
end Go.Proofs.YtmgjgkdbagbleaaGreatDoor.Toks
namespace Go.Proofs.YtmgjgkdbagbleaaGreatDoor.Lz
open Go.Proofs.YtmgjgkdbagbleaaGreatDoor.Toks (Tk mayB)
def alikeF (l : List Nat) (p at_ : Nat) : Nat → Nat → Nat
  | 0, n => n
  | f + 1, n => if n < 257 ∧ at_ + n < l.length ∧ l.getD (p + n) 0 = l.getD (at_ + n) 0 then alikeF l p at_ f (n + 1) else n
def alike (l : List Nat) (p at_ : Nat) : Nat := alikeF l p at_ 257 0
def stepB (l : List Nat) (at_ : Nat) (nd : Nat × Nat) (d : Nat) : Nat × Nat := if nd.1 < alike l (at_ - d) at_ then (alike l (at_ - d) at_, d) else nd
def bestN (l : List Nat) (at_ : Nat) : Nat → Nat × Nat
  | 0 => (0, 0)
  | d + 1 => stepB l at_ (bestN l at_ d) (d + 1)
def bestR (l : List Nat) (at_ : Nat) : Nat × Nat := bestN l at_ (min 4095 at_)
def findFrom (l : List Nat) (at_ : Nat) : List Tk :=
  if at_ < l.length then
    if 3 ≤ (bestR l at_).1 then ⟨0, ((bestR l at_).1 : Nat), ((bestR l at_).2 : Nat)⟩ :: findFrom l (at_ + (bestR l at_).1)
    else ⟨(l.getD at_ 0 : Nat), 0, 0⟩ :: findFrom l (at_ + 1)
  else []
termination_by l.length - at_
def find (l : List Nat) : List Tk := findFrom l 0
def copyT (out : List Nat) : Nat → Nat → List Nat
  | 0, _ => out
  | n + 1, d => copyT (out ++ [out.getD (out.length - d) 0]) n d
theorem copyT_length : ∀ (n d : Nat) (out : List Nat), (copyT out n d).length = out.length + n
  | 0, _, out => rfl
  | n + 1, d, out => by rw [copyT, copyT_length n d]; simp; omega
def playE (most : Int) (out : List Nat) (t : Tk) : Int :=
  if mayB t.lit t.len t.dist = true then if (out.length : Int) < t.dist then 8 else if most - (out.length : Int) < max 1 t.len then 6 else 0 else 7
def playT (most : Int) : List Nat → List Tk → List Nat × Int
  | out, [] => (out, 0)
  | out, t :: ts => if playE most out t = 0 then playT most (if t.len = 0 then out ++ [t.lit.toNat] else copyT out t.len.toNat t.dist.toNat) ts else ([], playE most out t)
def play (ts : List Tk) (most : Int) : List Nat × Int := if most < 0 then ([], 13) else playT most [] ts
end Go.Proofs.YtmgjgkdbagbleaaGreatDoor.Lz
