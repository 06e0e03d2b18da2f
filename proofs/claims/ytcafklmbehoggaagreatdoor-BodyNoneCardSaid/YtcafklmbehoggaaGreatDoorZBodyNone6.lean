/-
  The facts of the program that every claim asks. (The head's words are read by way of their letters.)
-/
import Derived.Test.YtcafklmbehoggaaGreatDoorChecked
import Derived.KernelRfl
import Derived.JoinedOf
namespace Go.Proofs.YtcafklmbehoggaaGreatDoor.Facts
def letters (l : List Nat) : List Char := l.map Char.ofNat
def head : List Nat := [104, 97, 114, 110, 101, 115, 115, 32, 51, 51, 99, 51, 48, 102, 56, 53, 55, 54, 97, 52, 102, 56, 102, 55, 52, 54, 57, 53, 51, 49, 57, 53, 57, 53, 50, 56, 50, 97, 97, 98, 102, 51, 48, 52, 102, 99, 57, 100, 101, 100, 99, 98, 102, 56, 53, 102, 97, 53, 100, 50, 48, 55, 53, 52, 100, 51, 57, 48, 102, 53, 53, 49, 32, 99, 117, 116, 32, 97, 116, 32, 102, 105, 114, 107, 105, 110, 47, 102, 105, 114, 107, 105, 110, 108, 97, 119, 50, 48, 46, 66, 111, 100, 121, 77, 97, 107, 101, 115, 32, 102, 105, 114, 107, 105, 110, 47, 102, 105, 114, 107, 105, 110, 108, 97, 119, 50, 50, 46, 84, 119, 111, 80, 97, 99, 107, 115, 32, 102, 105, 114, 107, 105, 110, 47, 102, 105, 114, 107, 105, 110, 108, 97, 119, 50, 48, 46, 66, 111, 100, 121, 78, 111, 110, 101, 32, 102, 105, 114, 107, 105, 110, 47, 102, 105, 114, 107, 105, 110, 108, 97, 119, 50, 48, 46, 66, 111, 100, 121, 79, 112, 101, 110, 115]
def words : List (List Nat) := [[104, 97, 114, 110, 101, 115, 115], [51, 51, 99, 51, 48, 102, 56, 53, 55, 54, 97, 52, 102, 56, 102, 55, 52, 54, 57, 53, 51, 49, 57, 53, 57, 53, 50, 56, 50, 97, 97, 98, 102, 51, 48, 52, 102, 99, 57, 100, 101, 100, 99, 98, 102, 56, 53, 102, 97, 53, 100, 50, 48, 55, 53, 52, 100, 51, 57, 48, 102, 53, 53, 49], [99, 117, 116], [97, 116], [102, 105, 114, 107, 105, 110, 47, 102, 105, 114, 107, 105, 110, 108, 97, 119, 50, 48, 46, 66, 111, 100, 121, 77, 97, 107, 101, 115], [102, 105, 114, 107, 105, 110, 47, 102, 105, 114, 107, 105, 110, 108, 97, 119, 50, 50, 46, 84, 119, 111, 80, 97, 99, 107, 115], [102, 105, 114, 107, 105, 110, 47, 102, 105, 114, 107, 105, 110, 108, 97, 119, 50, 48, 46, 66, 111, 100, 121, 78, 111, 110, 101], [102, 105, 114, 107, 105, 110, 47, 102, 105, 114, 107, 105, 110, 108, 97, 119, 50, 48, 46, 66, 111, 100, 121, 79, 112, 101, 110, 115]]
theorem head_eq : Tryz.prog.initOrder = String.ofList (letters head) := by kernel_rfl
theorem head_list : Tryz.prog.initOrder.toList = letters head := by rw [head_eq]; exact String.toList_ofList
theorem signs : wordsSigns Tryz.prog.initOrder.toList = words.map letters := by rw [head_list]; kernel_rfl
theorem behind : behindMainWord (wordsSigns Tryz.prog.initOrder.toList) = (words.drop 2).map letters := by rw [signs]; kernel_rfl
theorem cut_gc : (letters [99, 117, 116] == "gc".toList) = false := by kernel_rfl
theorem cut_spec : (letters [99, 117, 116] == "spec".toList) = false := by kernel_rfl
theorem cut_cut : (letters [99, 117, 116] == "cut".toList) = true := by kernel_rfl
theorem cut_cut' : letters [99, 117, 116] = "cut".toList := by kernel_rfl
theorem cut_carried : (letters [99, 117, 116] == "carried".toList) = false := by kernel_rfl
theorem strip (rest : List (List Char)) : stripLifts liftWords (letters [99, 117, 116] :: rest) = ([], letters [99, 117, 116] :: rest) := by kernel_rfl
theorem mayEnter_of (P : Program) (rest : List (List Char)) (h : behindMainWord (wordsSigns P.initOrder.toList) = letters [99, 117, 116] :: rest) (h1 : P.laysLater = false) (h2 : P.bearsReflect = false) (h3 : P.doorFits [] = true) : P.mayEnter = true := by
  unfold Program.mayEnter
  rw [h]
  simp only [strip, cut_gc, cut_spec, cut_carried, h1, h2, h3, List.head?_cons]
  simp [cut_cut']
theorem headLifts_of (P : Program) (rest : List (List Char)) (h : behindMainWord (wordsSigns P.initOrder.toList) = letters [99, 117, 116] :: rest) : P.headLifts = [] := by
  unfold Program.headLifts
  rw [h, strip]
  simp
theorem liftsFinal_of (P : Program) (rest : List (List Char)) (h : behindMainWord (wordsSigns P.initOrder.toList) = letters [99, 117, 116] :: rest) : P.liftsFinal = false := by
  unfold Program.liftsFinal
  rw [headLifts_of P rest h, h]
  have c : (some (letters [99, 117, 116]) == some "carried".toList) = false := by kernel_rfl
  simp only [List.head?_cons, c]
  simp
theorem make_of (P : Program) (rest : List (List Char)) (h : behindMainWord (wordsSigns P.initOrder.toList) = letters [99, 117, 116] :: rest) : P.make = some .cut := by
  unfold Program.make
  rw [h]
  simp only [cut_gc, cut_spec, cut_cut, Bool.or_false, Bool.false_eq_true, if_false, Bool.true_or, if_true]
def rest : List (List Char) := (words.drop 3).map letters
theorem behind' : behindMainWord (wordsSigns Tryz.prog.initOrder.toList) = letters [99, 117, 116] :: rest := by rw [behind]; kernel_rfl
theorem laysLater : Tryz.prog.laysLater = false := by kernel_rfl
theorem bearsReflect : Tryz.prog.bearsReflect = false := by kernel_rfl
theorem doorFits : Tryz.prog.doorFits [] = true := by kernel_rfl
theorem mayEnter : Tryz.prog.mayEnter = true := mayEnter_of _ _ behind' laysLater bearsReflect doorFits
theorem liftsFinal : Tryz.prog.liftsFinal = false := liftsFinal_of _ _ behind'
theorem make : Tryz.prog.make = some .cut := make_of _ _ behind'
theorem laidOut : laidOutB Tryz.prog = true := by kernel_rfl
theorem mapsRowed : mapsRowed Tryz.prog = true := by kernel_rfl
theorem stopsHeard : Tryz.prog.stopsHeard = true := by kernel_rfl
theorem plainKeys : Tryz.prog.plainKeys = false := by kernel_rfl
end Go.Proofs.YtcafklmbehoggaaGreatDoor.Facts
