/-
  The walks of package toks' Count and of the reference's. Rows of tokens.
-/
import Derived.Test.YtmgjgkdbagbleaaGreatDoorZOneUnpacks17
import Derived.Test.YtmgjgkdbagbleaaGreatDoorZOneUnpacks16
import Derived.Test.YtmgjgkdbagbleaaGreatDoorZOneUnpacks1
import Derived.Deep.RegionWith
import Derived.Deep.DeepCutAuto
import Derived.Laws.MakeOwn
namespace Go.Proofs.YtmgjgkdbagbleaaGreatDoor.Toks
open Go.RowKit Go.Proofs.YtmgjgkdbagbleaaGreatDoor.Mem
def tkd : Tk := ⟨0, 0, 0⟩
def tokF (ts : List Tk) : Nat → Nat → Value := fun i j => match j with
  | 0 => .int .u8 (ts.getD i tkd).lit
  | 1 => .int .i64 (ts.getD i tkd).len
  | _ => .int .i64 (ts.getD i tkd).dist
end Go.Proofs.YtmgjgkdbagbleaaGreatDoor.Toks
namespace Go.Proofs.YtmgjgkdbagbleaaGreatDoor.Huff
open Go.RowKit Go.Proofs.YtmgjgkdbagbleaaGreatDoor.Mem
open Go.Proofs.YtmgjgkdbagbleaaGreatDoor.Toks (Tk)
def tksL (ts : List Tk) : List Value := ts.flatMap fun t => [.int .u8 t.lit, .int .i64 t.len, .int .i64 t.dist]
theorem tksL_snoc (ts : List Tk) (t : Tk) : tksL (ts ++ [t]) = tksL ts ++ [.int .u8 t.lit, .int .i64 t.len, .int .i64 t.dist] := by simp [tksL]
theorem info_tok3 : (Tryz.prog.info? 235).map (fun i => (i.zero, i.size, i.bytes)) = some (some (.agg #[.int .u8 0, .int .i64 0, .int .i64 0]), 3, 24) := by kernel_rfl
def tkd : Tk := ⟨0, 0, 0⟩
def tkF (ts : List Tk) : Nat → Nat → Value := fun i j => match j with
  | 0 => .int .u8 (ts.getD i tkd).lit
  | 1 => .int .i64 (ts.getD i tkd).len
  | _ => .int .i64 (ts.getD i tkd).dist
theorem tksL_get : ∀ (ts : List Tk) (i j : Nat), i < ts.length → j < 3 → (tksL ts)[i * 3 + j]? = some (tkF ts i j)
  | [], i, j, h, _ => by simp at h
  | t :: ts, 0, j, _, hj => by
    obtain rfl | rfl | rfl : j = 0 ∨ j = 1 ∨ j = 2 := by omega
    all_goals rfl
  | t :: ts, i + 1, j, h, hj => by
    have := tksL_get ts i j (by simpa using h) hj
    show (_ :: _ :: _ :: tksL ts)[(i + 1) * 3 + j]? = _
    rw [show (i + 1) * 3 + j = (i * 3 + j) + 1 + 1 + 1 by omega, List.getElem?_cons_succ, List.getElem?_cons_succ, List.getElem?_cons_succ, this]
    rfl
end Go.Proofs.YtmgjgkdbagbleaaGreatDoor.Huff
namespace Go.Proofs.YtmgjgkdbagbleaaGreatDoor.Block
open Go.RowKit Go.Proofs.YtmgjgkdbagbleaaGreatDoor.Mem
open Go.Proofs.YtmgjgkdbagbleaaGreatDoor.Huff (tksL tksL_get tkF)
open Go.Proofs.YtmgjgkdbagbleaaGreatDoor.Toks (Tk)
theorem tkF_tok (ts : List Tk) (i j : Nat) : tkF ts i j = Toks.tokF ts i j := by
  match j with
  | 0 => rfl
  | 1 => rfl
  | _ + 2 => rfl
theorem own_toks {w : World} {base c : Nat} {A : Option Addr} {ts : List Tk} (h : w.ownsRow base 235 3 (.slice A ts.length c) ts.length (tksL ts)) : Row w w.heap.size A ts.length 3 (Toks.tokF ts) :=
  Row.of_own h rfl fun i j hi hj => by rw [← tkF_tok ts i j]; exact tksL_get ts i j hi hj
end Go.Proofs.YtmgjgkdbagbleaaGreatDoor.Block
