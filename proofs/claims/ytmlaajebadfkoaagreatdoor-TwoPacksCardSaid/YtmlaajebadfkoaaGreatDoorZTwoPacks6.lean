/- The facts of the program that every claim asks. (The head's words are  -/
import Derived.Test.YtmlaajebadfkoaaGreatDoorChecked
import Derived.KernelRfl
import Derived.JoinedOf
namespace Go.Proofs.YtmlaajebadfkoaaGreatDoor end Go.Proofs.YtmlaajebadfkoaaGreatDoor open Go.Proofs.YtmlaajebadfkoaaGreatDoor
namespace Go.Proofs.YtmlaajebadfkoaaGreatDoor.Facts
def bdZ(l:List Nat):List Char:=l.map Char.ofNat
def head:List Nat:= [104,97,114,110,101,115,115,32,54,101,50,55,55,97,99,53,97,53,50,53,54,98,50,57,57,102,97,99,54,49,49,50,53,50,97,52,98,57,100,99,54,97,97,51,101,51,57,52,50,100,97,53,55,57,99,54,100,56,55,50,98,98,98,48,51,51,99,100,48,49,102,53,32,99,117,116,32,97,116,32,102,105,114,107,105,110,47,102,105,114,107,105,110,108,97,119,50,50,46,84,119,111,80,97,99,107,115,32,102,105,114,107,105,110,47,102,105,114,107,105,110,108,97,119,50,48,46,66,111,100,121,79,112,101,110,115,32,102,105,114,107,105,110,47,102,105,114,107,105,110,108,97,119,50,50,46,84,119,111,79,112,101,110,115,32,102,105,114,107,105,110,47,102,105,114,107,105,110,108,97,119,50,48,46,66,111,100,121,76,111,103,115]
def words:List (List Nat):= [[104,97,114,110,101,115,115],[54,101,50,55,55,97,99,53,97,53,50,53,54,98,50,57,57,102,97,99,54,49,49,50,53,50,97,52,98,57,100,99,54,97,97,51,101,51,57,52,50,100,97,53,55,57,99,54,100,56,55,50,98,98,98,48,51,51,99,100,48,49,102,53],[99,117,116],[97,116],[102,105,114,107,105,110,47,102,105,114,107,105,110,108,97,119,50,50,46,84,119,111,80,97,99,107,115],[102,105,114,107,105,110,47,102,105,114,107,105,110,108,97,119,50,48,46,66,111,100,121,79,112,101,110,115],[102,105,114,107,105,110,47,102,105,114,107,105,110,108,97,119,50,50,46,84,119,111,79,112,101,110,115],[102,105,114,107,105,110,47,102,105,114,107,105,110,108,97,119,50,48,46,66,111,100,121,76,111,103,115]]
theorem head_eq:Tryz.prog.initOrder=String.ofList (bdZ head):=by kernel_rfl
theorem amZb:Tryz.prog.initOrder.toList=bdZ head:=by rw[head_eq];exact String.toList_ofList
theorem csZb:wordsSigns Tryz.prog.initOrder.toList=words.map bdZ:=by rw[amZb];kernel_rfl
theorem behind:behindMainWord (wordsSigns Tryz.prog.initOrder.toList)=(words.drop 2).map bdZ:=by rw[csZb];kernel_rfl
theorem bmZb:(bdZ [99,117,116]== "gc".toList)=false:=by kernel_rfl
theorem ddZb:(bdZ [99,117,116]== "spec".toList)=false:=by kernel_rfl
theorem tqZb:(bdZ [99,117,116]== "cut".toList)=true:=by kernel_rfl
theorem bpZb:bdZ [99,117,116]= "cut".toList:=by kernel_rfl
theorem seZb:(bdZ [99,117,116]== "carried".toList)=false:=by kernel_rfl
theorem strip(rest:List (List Char)):stripLifts liftWords (bdZ [99,117,116] :: rest)=([],bdZ [99,117,116] :: rest):=by kernel_rfl
theorem teZb(P:Program)(rest:List (List Char))(h:behindMainWord (wordsSigns P.initOrder.toList)=bdZ [99,117,116] :: rest)(h1:P.laysLater=false)(h2:P.bearsReflect=false)(h3:P.doorFits []=true):P.mayEnter=true:=by
 unfold Program.mayEnter
 rw[h]
 simp only[strip,bmZb,ddZb,seZb,h1,h2,h3,List.head?_cons]
 simp[bpZb]
theorem edZb(P:Program)(rest:List (List Char))(h:behindMainWord (wordsSigns P.initOrder.toList)=bdZ [99,117,116] :: rest):P.headLifts= []:=by
 unfold Program.headLifts
 rw[h,strip]
 simp
theorem rzZ(P:Program)(rest:List (List Char))(h:behindMainWord (wordsSigns P.initOrder.toList)=bdZ [99,117,116] :: rest):P.liftsFinal=false:=by
 unfold Program.liftsFinal
 rw[edZb P rest h,h]
 have c:(some (bdZ [99,117,116])==some "carried".toList)=false:=by kernel_rfl
 simp only[List.head?_cons,c]
 simp
theorem uqZb(P:Program)(rest:List (List Char))(h:behindMainWord (wordsSigns P.initOrder.toList)=bdZ [99,117,116] :: rest):P.make=some .cut:=by
 unfold Program.make
 rw[h]
 simp only[bmZb,ddZb,tqZb,Bool.or_false,Bool.false_eq_true,if_false,Bool.true_or,if_true]
def rest:List (List Char):=(words.drop 3).map bdZ
theorem ixZ:behindMainWord (wordsSigns Tryz.prog.initOrder.toList)=bdZ [99,117,116] :: rest:=by rw[behind];kernel_rfl
theorem laysLater:Tryz.prog.laysLater=false:=by kernel_rfl
theorem bearsReflect:Tryz.prog.bearsReflect=false:=by kernel_rfl
theorem doorFits:Tryz.prog.doorFits []=true:=by kernel_rfl
theorem mayEnter:Tryz.prog.mayEnter=true:=teZb _ _ ixZ laysLater bearsReflect doorFits
theorem liftsFinal:Tryz.prog.liftsFinal=false:=rzZ _ _ ixZ
theorem make:Tryz.prog.make=some .cut:=uqZb _ _ ixZ
theorem laidOut:laidOutB Tryz.prog=true:=by kernel_rfl
theorem mapsRowed:mapsRowed Tryz.prog=true:=by kernel_rfl
theorem stopsHeard:Tryz.prog.stopsHeard=true:=by kernel_rfl
theorem plainKeys:Tryz.prog.plainKeys=false:=by kernel_rfl
end Go.Proofs.YtmlaajebadfkoaaGreatDoor.Facts
