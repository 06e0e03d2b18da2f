/-
  The facts of the program that every claim asks. (The head's words are read by way of their letters.)
-/
import Derived.Test.YtloakdiioaodaaaChecked
import Derived.KernelRfl
import Derived.JoinedOf
namespace Go.Proofs.Ytloakdiioaodaaa.Facts
def letters (l : List Nat) : List Char := l.map Char.ofNat
def head : List Nat := [104, 97, 114, 110, 101, 115, 115, 32, 51, 55, 48, 57, 51, 99, 52, 54, 53, 97, 51, 97, 98, 54, 52, 54, 55, 57, 99, 54, 98, 102, 57, 55, 53, 53, 51, 54, 51, 52, 57, 49, 98, 49, 49, 101, 49, 51, 52, 101, 57, 52, 50, 54, 100, 50, 100, 100, 57, 101, 98, 50, 97, 102, 52, 102, 100, 102, 50, 99, 102, 52, 49, 98, 32, 99, 117, 116, 32, 97, 116, 32, 102, 105, 114, 107, 105, 110, 47, 102, 105, 114, 107, 105, 110, 108, 97, 119, 51, 53, 46, 83, 105, 102, 116, 77, 97, 121, 32, 102, 105, 114, 107, 105, 110, 47, 102, 105, 114, 107, 105, 110, 108, 97, 119, 51, 53, 46, 83, 105, 102, 116, 83, 111, 117, 110, 100, 32, 102, 105, 114, 107, 105, 110, 47, 102, 105, 114, 107, 105, 110, 108, 97, 119, 49, 49, 46, 84, 111, 107, 115, 87, 114, 105, 116, 101, 115, 32, 102, 105, 114, 107, 105, 110, 47, 102, 105, 114, 107, 105, 110, 108, 97, 119, 49, 49, 46, 84, 111, 107, 115, 66, 97, 99, 107]
def words : List (List Nat) := [[104, 97, 114, 110, 101, 115, 115], [51, 55, 48, 57, 51, 99, 52, 54, 53, 97, 51, 97, 98, 54, 52, 54, 55, 57, 99, 54, 98, 102, 57, 55, 53, 53, 51, 54, 51, 52, 57, 49, 98, 49, 49, 101, 49, 51, 52, 101, 57, 52, 50, 54, 100, 50, 100, 100, 57, 101, 98, 50, 97, 102, 52, 102, 100, 102, 50, 99, 102, 52, 49, 98], [99, 117, 116], [97, 116], [102, 105, 114, 107, 105, 110, 47, 102, 105, 114, 107, 105, 110, 108, 97, 119, 51, 53, 46, 83, 105, 102, 116, 77, 97, 121], [102, 105, 114, 107, 105, 110, 47, 102, 105, 114, 107, 105, 110, 108, 97, 119, 51, 53, 46, 83, 105, 102, 116, 83, 111, 117, 110, 100], [102, 105, 114, 107, 105, 110, 47, 102, 105, 114, 107, 105, 110, 108, 97, 119, 49, 49, 46, 84, 111, 107, 115, 87, 114, 105, 116, 101, 115], [102, 105, 114, 107, 105, 110, 47, 102, 105, 114, 107, 105, 110, 108, 97, 119, 49, 49, 46, 84, 111, 107, 115, 66, 97, 99, 107]]
theorem head_eq : Try.prog.initOrder = String.ofList (letters head) := by kernel_rfl
theorem head_list : Try.prog.initOrder.toList = letters head := by rw [head_eq]; exact String.toList_ofList
theorem signs : wordsSigns Try.prog.initOrder.toList = words.map letters := by rw [head_list]; kernel_rfl
theorem behind : behindMainWord (wordsSigns Try.prog.initOrder.toList) = (words.drop 2).map letters := by rw [signs]; kernel_rfl
theorem cut_gc : (letters [99, 117, 116] == "gc".toList) = false := by kernel_rfl
theorem cut_spec : (letters [99, 117, 116] == "spec".toList) = false := by kernel_rfl
theorem cut_cut : (letters [99, 117, 116] == "cut".toList) = true := by kernel_rfl
theorem cut_cut' : letters [99, 117, 116] = "cut".toList := by kernel_rfl
theorem cut_carried : (letters [99, 117, 116] == "carried".toList) = false := by kernel_rfl
theorem strip (rest : List (List Char)) : stripLifts liftWords (letters [99, 117, 116] :: rest) = ([], letters [99, 117, 116] :: rest) := by kernel_rfl
theorem mayEnter_of (P : Program) (rest : List (List Char)) (h : behindMainWord (wordsSigns P.initOrder.toList) = letters [99, 117, 116] :: rest) (h1 : P.laysLater = false) (h2 : P.bearsReflect = false) (h3 : P.doorFits [] = true) : P.mayEnter = true := by
  unfold Program.mayEnter
  rw [h]
  simp only [strip, cut_gc, cut_spec, cut_carried, h1, h2, h3, List.head?_cons]
  simp [cut_cut']
theorem headLifts_of (P : Program) (rest : List (List Char)) (h : behindMainWord (wordsSigns P.initOrder.toList) = letters [99, 117, 116] :: rest) : P.headLifts = [] := by
  unfold Program.headLifts
  rw [h, strip]
  simp
theorem liftsFinal_of (P : Program) (rest : List (List Char)) (h : behindMainWord (wordsSigns P.initOrder.toList) = letters [99, 117, 116] :: rest) : P.liftsFinal = false := by
  unfold Program.liftsFinal
  rw [headLifts_of P rest h, h]
  have c : (some (letters [99, 117, 116]) == some "carried".toList) = false := by kernel_rfl
  simp only [List.head?_cons, c]
  simp
theorem make_of (P : Program) (rest : List (List Char)) (h : behindMainWord (wordsSigns P.initOrder.toList) = letters [99, 117, 116] :: rest) : P.make = some .cut := by
  unfold Program.make
  rw [h]
  simp only [cut_gc, cut_spec, cut_cut, Bool.or_false, Bool.false_eq_true, if_false, Bool.true_or, if_true]
def rest : List (List Char) := (words.drop 3).map letters
theorem behind' : behindMainWord (wordsSigns Try.prog.initOrder.toList) = letters [99, 117, 116] :: rest := by rw [behind]; kernel_rfl
theorem laysLater : Try.prog.laysLater = false := by kernel_rfl
theorem bearsReflect : Try.prog.bearsReflect = false := by kernel_rfl
theorem doorFits : Try.prog.doorFits [] = true := by kernel_rfl
theorem mayEnter : Try.prog.mayEnter = true := mayEnter_of _ _ behind' laysLater bearsReflect doorFits
theorem liftsFinal : Try.prog.liftsFinal = false := liftsFinal_of _ _ behind'
theorem make : Try.prog.make = some .cut := make_of _ _ behind'
theorem laidOut : laidOutB Try.prog = true := by kernel_rfl
theorem mapsRowed : mapsRowed Try.prog = true := by kernel_rfl
theorem stopsHeard : Try.prog.stopsHeard = true := by kernel_rfl
theorem plainKeys : Try.prog.plainKeys = true := by kernel_rfl
end Go.Proofs.Ytloakdiioaodaaa.Facts
