/- The facts of the pro -/
import Derived.Test.YtfgdoknipbpfhaaGreatDoorZTwoUnpacks1
import Derived.Test.YtfgdoknipbpfhaaGreatDoorChecked
import Derived.KernelRfl
import Derived.JoinedOf
namespace Go.Proofs.YtfgdoknipbpfhaaGreatDoor
open Go.Proofs.Tryz
namespace Facts
def Es(l:List Nat):List Char:=l.map Char.ofNat
def head:List Nat:= [104,97,114,110,101,115,115,32,48,102,50,54,52,98,102,100,49,48,54,99,52,102,50,48,51,54,52,100,97,50,57,49,101,98,99,56,54,97,102,100,99,56,49,54,54,99,51,49,56,53,52,50,100,54,48,102,52,53,54,52,53,52,48,54,52,54,48,54,53,55,97,101,32,99,117,116,32,97,116,32,102,105,114,107,105,110,47,102,105,114,107,105,110,108,97,119,50,48,46,66,111,100,121,66,108,111,99,107,115,32,102,105,114,107,105,110,47,102,105,114,107,105,110,108,97,119,50,48,46,66,111,100,121,66,97,99,107,32,102,105,114,107,105,110,47,102,105,114,107,105,110,108,97,119,50,48,46,66,111,100,121,73,110,100,101,120,32,102,105,114,107,105,110,47,102,105,114,107,105,110,108,97,119,51,54,46,68,105,102,102,66,101,116,119,101,101,110,32,102,105,114,107,105,110,47,102,105,114,107,105,110,108,97,119,50,48,46,66,111,100,121,79,112,101,110,101,100,32,102,105,114,107,105,110,47,102,105,114,107,105,110,108,97,119,50,50,46,84,119,111,85,110,112,97,99,107,115,32,102,105,114,107,105,110,47,102,105,114,107,105,110,108,97,119,50,50,46,84,119,111,66,97,99,107]
def words:List (List Nat):= [[104,97,114,110,101,115,115],[48,102,50,54,52,98,102,100,49,48,54,99,52,102,50,48,51,54,52,100,97,50,57,49,101,98,99,56,54,97,102,100,99,56,49,54,54,99,51,49,56,53,52,50,100,54,48,102,52,53,54,52,53,52,48,54,52,54,48,54,53,55,97,101],[99,117,116],[97,116],[102,105,114,107,105,110,47,102,105,114,107,105,110,108,97,119,50,48,46,66,111,100,121,66,108,111,99,107,115],[102,105,114,107,105,110,47,102,105,114,107,105,110,108,97,119,50,48,46,66,111,100,121,66,97,99,107],[102,105,114,107,105,110,47,102,105,114,107,105,110,108,97,119,50,48,46,66,111,100,121,73,110,100,101,120],[102,105,114,107,105,110,47,102,105,114,107,105,110,108,97,119,51,54,46,68,105,102,102,66,101,116,119,101,101,110],[102,105,114,107,105,110,47,102,105,114,107,105,110,108,97,119,50,48,46,66,111,100,121,79,112,101,110,101,100],[102,105,114,107,105,110,47,102,105,114,107,105,110,108,97,119,50,50,46,84,119,111,85,110,112,97,99,107,115],[102,105,114,107,105,110,47,102,105,114,107,105,110,108,97,119,50,50,46,84,119,111,66,97,99,107]]
theorem head_eq:prog.initOrder=String.ofList (Es head):=kG
theorem Xo:prog.initOrder.toList=Es head:=by rw[head_eq];exact String.toList_ofList
theorem V7:wordsSigns prog.initOrder.toList=words.map Es:=by rw[Xo];kernel_rfl
theorem behind:behindMainWord (wordsSigns prog.initOrder.toList)=(words.drop 2).map Es:=by rw[V7];kernel_rfl
theorem QY:(Es [99,117,116]== "gc".toList)=false:=kG
theorem Rc:(Es [99,117,116]== "spec".toList)=false:=kG
theorem ZR:(Es [99,117,116]== "cut".toList)=true:=kG
theorem ZD:Es [99,117,116]= "cut".toList:=kG
theorem X0:(Es [99,117,116]== "carried".toList)=false:=kG
theorem strip(rest:List (List Char)):stripLifts liftWords (Es [99,117,116] :: rest)=([],Es [99,117,116] :: rest):=kG
theorem XJ(P:Program)(rest:List (List Char))(h:behindMainWord (wordsSigns P.initOrder.toList)=Es [99,117,116] :: rest)(h1:P.laysLater=false)(h2:P.bearsReflect=false)(h3:P.doorFits []=true):P.mayEnter=true:=by unfold Program.mayEnter;rw[h];simp only[strip,QY,Rc,X0,h1,h2,h3,List.head?_cons];simp[ZD]
theorem Xf(P:Program)(rest:List (List Char))(h:behindMainWord (wordsSigns P.initOrder.toList)=Es [99,117,116] :: rest):P.headLifts= []:=by unfold Program.headLifts;rw[h,strip];simp
theorem WW(P:Program)(rest:List (List Char))(h:behindMainWord (wordsSigns P.initOrder.toList)=Es [99,117,116] :: rest):P.liftsFinal=false:=by
 unfold Program.liftsFinal;rw[Xf P rest h,h];have c:(some (Es [99,117,116])==some "carried".toList)=false:=kG
 simp only[List.head?_cons,c];simp
theorem ZB(P:Program)(rest:List (List Char))(h:behindMainWord (wordsSigns P.initOrder.toList)=Es [99,117,116] :: rest):P.make=some .cut:=by unfold Program.make;rw[h];simp only[QY,Rc,ZR,Bool.or_false,Bool.false_eq_true,if_false,Bool.true_or,if_true]
def rest:List (List Char):=(words.drop 3).map Es
theorem NX:behindMainWord (wordsSigns prog.initOrder.toList)=Es [99,117,116] :: rest:=by rw[behind];kernel_rfl
theorem laysLater:prog.laysLater=false:=kG
theorem bearsReflect:prog.bearsReflect=false:=kG
theorem doorFits:prog.doorFits []=true:=kG
theorem mayEnter:prog.mayEnter=true:=XJ _ _ NX laysLater bearsReflect doorFits
theorem liftsFinal:prog.liftsFinal=false:=WW _ _ NX
theorem make:prog.make=some .cut:=ZB _ _ NX
theorem laidOut:laidOutB prog=true:=kG
theorem mapsRowed:mapsRowed prog=true:=kG
theorem stopsHeard:prog.stopsHeard=true:=kG
theorem plainKeys:prog.plainKeys=false:=kG
end Facts
end Go.Proofs.YtfgdoknipbpfhaaGreatDoor
