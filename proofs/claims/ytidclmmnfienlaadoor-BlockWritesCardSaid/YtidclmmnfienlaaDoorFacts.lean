/-
  The facts of the program that every claim asks. (The head's words are read by way of their letters.)
-/
import Derived.Test.YtidclmmnfienlaaDoorChecked
import Derived.KernelRfl
import Derived.JoinedOf
namespace Go.Proofs.YtidclmmnfienlaaDoor.Facts
def letters (l : List Nat) : List Char := l.map Char.ofNat
def head : List Nat := [104, 97, 114, 110, 101, 115, 115, 32, 48, 99, 100, 48, 49, 97, 98, 50, 101, 56, 53, 101, 50, 54, 100, 102, 51, 100, 52, 54, 51, 100, 51, 50, 100, 53, 55, 55, 55, 101, 55, 54, 98, 48, 56, 53, 53, 100, 98, 51, 100, 57, 50, 56, 51, 52, 97, 97, 54, 57, 99, 55, 101, 49, 100, 97, 102, 50, 49, 99, 57, 56, 100, 101, 32, 99, 117, 116, 32, 97, 116, 32, 102, 105, 114, 107, 105, 110, 47, 102, 105, 114, 107, 105, 110, 108, 97, 119, 49, 50, 46, 66, 108, 111, 99, 107, 87, 114, 105, 116, 101, 115]
def words : List (List Nat) := [[104, 97, 114, 110, 101, 115, 115], [48, 99, 100, 48, 49, 97, 98, 50, 101, 56, 53, 101, 50, 54, 100, 102, 51, 100, 52, 54, 51, 100, 51, 50, 100, 53, 55, 55, 55, 101, 55, 54, 98, 48, 56, 53, 53, 100, 98, 51, 100, 57, 50, 56, 51, 52, 97, 97, 54, 57, 99, 55, 101, 49, 100, 97, 102, 50, 49, 99, 57, 56, 100, 101], [99, 117, 116], [97, 116], [102, 105, 114, 107, 105, 110, 47, 102, 105, 114, 107, 105, 110, 108, 97, 119, 49, 50, 46, 66, 108, 111, 99, 107, 87, 114, 105, 116, 101, 115]]
theorem head_eq : Tryd.prog.initOrder = String.ofList (letters head) := by kernel_rfl
theorem head_list : Tryd.prog.initOrder.toList = letters head := by rw [head_eq]; exact String.toList_ofList
theorem signs : wordsSigns Tryd.prog.initOrder.toList = words.map letters := by rw [head_list]; kernel_rfl
theorem behind : behindMainWord (wordsSigns Tryd.prog.initOrder.toList) = (words.drop 2).map letters := by rw [signs]; kernel_rfl
theorem cut_gc : (letters [99, 117, 116] == "gc".toList) = false := by kernel_rfl
theorem cut_spec : (letters [99, 117, 116] == "spec".toList) = false := by kernel_rfl
theorem cut_cut : (letters [99, 117, 116] == "cut".toList) = true := by kernel_rfl
theorem cut_cut' : letters [99, 117, 116] = "cut".toList := by kernel_rfl
theorem cut_carried : (letters [99, 117, 116] == "carried".toList) = false := by kernel_rfl
theorem strip (rest : List (List Char)) : stripLifts liftWords (letters [99, 117, 116] :: rest) = ([], letters [99, 117, 116] :: rest) := by kernel_rfl
theorem mayEnter_of (P : Program) (rest : List (List Char)) (h : behindMainWord (wordsSigns P.initOrder.toList) = letters [99, 117, 116] :: rest) (h1 : P.laysLater = false) (h2 : P.bearsReflect = false) (h3 : P.doorFits [] = true) : P.mayEnter = true := by
  unfold Program.mayEnter
  rw [h]
  simp only [strip, cut_gc, cut_spec, cut_carried, h1, h2, h3, List.head?_cons]
  simp [cut_cut']
theorem headLifts_of (P : Program) (rest : List (List Char)) (h : behindMainWord (wordsSigns P.initOrder.toList) = letters [99, 117, 116] :: rest) : P.headLifts = [] := by
  unfold Program.headLifts
  rw [h, strip]
  simp
theorem liftsFinal_of (P : Program) (rest : List (List Char)) (h : behindMainWord (wordsSigns P.initOrder.toList) = letters [99, 117, 116] :: rest) : P.liftsFinal = false := by
  unfold Program.liftsFinal
  rw [headLifts_of P rest h, h]
  have c : (some (letters [99, 117, 116]) == some "carried".toList) = false := by kernel_rfl
  simp only [List.head?_cons, c]
  simp
theorem make_of (P : Program) (rest : List (List Char)) (h : behindMainWord (wordsSigns P.initOrder.toList) = letters [99, 117, 116] :: rest) : P.make = some .cut := by
  unfold Program.make
  rw [h]
  simp only [cut_gc, cut_spec, cut_cut, Bool.or_false, Bool.false_eq_true, if_false, Bool.true_or, if_true]
def rest : List (List Char) := (words.drop 3).map letters
theorem behind' : behindMainWord (wordsSigns Tryd.prog.initOrder.toList) = letters [99, 117, 116] :: rest := by rw [behind]; kernel_rfl
theorem laysLater : Tryd.prog.laysLater = false := by kernel_rfl
theorem bearsReflect : Tryd.prog.bearsReflect = false := by kernel_rfl
theorem doorFits : Tryd.prog.doorFits [] = true := by kernel_rfl
theorem mayEnter : Tryd.prog.mayEnter = true := mayEnter_of _ _ behind' laysLater bearsReflect doorFits
theorem liftsFinal : Tryd.prog.liftsFinal = false := liftsFinal_of _ _ behind'
theorem make : Tryd.prog.make = some .cut := make_of _ _ behind'
theorem laidOut : laidOutB Tryd.prog = true := by kernel_rfl
theorem mapsRowed : mapsRowed Tryd.prog = true := by kernel_rfl
theorem stopsHeard : Tryd.prog.stopsHeard = true := by kernel_rfl
theorem plainKeys : Tryd.prog.plainKeys = false := by kernel_rfl
end Go.Proofs.YtidclmmnfienlaaDoor.Facts
