/-
  Records of a log: their cells, and when two are the same.
-/
import Derived.Test.YtidclmmnfienlaaGreatDoorMem
namespace Go.Proofs.YtidclmmnfienlaaGreatDoor.Recs
open Go.RowKit Go.Proofs.YtidclmmnfienlaaGreatDoor.Mem

structure Rec where
  time : Int
  level : Int
  source : ByteArray
  text : ByteArray
def Rec.cells (r : Rec) : List Value := [.int .u64 r.time, .int .u8 r.level, .string r.source, .string r.text]
def recd : Rec := ⟨0, 0, .empty, .empty⟩
def recF (l : List Rec) : Nat → Nat → Value := fun i j => match j with
  | 0 => .int .u64 (l.getD i recd).time
  | 1 => .int .u8 (l.getD i recd).level
  | 2 => .string (l.getD i recd).source
  | _ => .string (l.getD i recd).text

def recEq (a b : Rec) : Bool := a.time == b.time && (a.level == b.level && (a.source.toList == b.source.toList && a.text.toList == b.text.toList))

theorem bytes_ext {a b : ByteArray} (h : a.toList = b.toList) : a = b := by
  have h' : a.data.toList = b.data.toList := by rw [← ByteArray.toList_eq, ← ByteArray.toList_eq]; exact h
  cases a; cases b
  simp at h'
  rw [h']
theorem recEq_iff (a b : Rec) : recEq a b = true ↔ a = b := by
  constructor
  · intro h
    simp only [recEq, Bool.and_eq_true, beq_iff_eq] at h
    obtain ⟨h1, h2, h3, h4⟩ := h
    cases a; cases b
    simp only at h1 h2 h3 h4
    rw [h1, h2, bytes_ext h3, bytes_ext h4]
  · intro h
    subst h
    simp [recEq]
theorem recEq_false (a b : Rec) : recEq a b = false ↔ a ≠ b := by
  rw [← Bool.not_eq_true, recEq_iff]

instance : DecidableEq Rec := fun a b => if h : recEq a b = true then .isTrue ((recEq_iff a b).1 h) else .isFalse fun e => h ((recEq_iff a b).2 e)

def recsEq (a b : List Rec) : Bool := decide (a = b)

/-- What a log weighs. -/
def weigh (r : Rec) : Int := 16 + r.source.size + r.text.size
def weight (l : List Rec) : Int := (l.map weigh).foldl (· + ·) 0
theorem foldl_add (l : List Int) : ∀ a : Int, l.foldl (· + ·) a = a + l.foldl (· + ·) 0 := by
  induction l with
  | nil => intro a; simp
  | cons x l ih => intro a; simp only [List.foldl_cons]; rw [ih (a + x), ih (0 + x)]; omega
theorem weight_snoc (l : List Rec) (r : Rec) : weight (l ++ [r]) = weight l + weigh r := by
  simp [weight]
theorem weight_nil : weight [] = 0 := rfl
end Go.Proofs.YtidclmmnfienlaaGreatDoor.Recs
