/- The facts of the pro -/
import Derived.Test.YtfgdoknipbpfhaaGreatDoorZBodyIndex1
import Derived.Test.YtfgdoknipbpfhaaGreatDoorChecked
import Derived.KernelRfl
import Derived.JoinedOf
namespace Go.Proofs.YtfgdoknipbpfhaaGreatDoor
open Go.Proofs.Tryz
namespace Facts
def Fm(l:List Nat):List Char:=l.map Char.ofNat
def head:List Nat:= [104,97,114,110,101,115,115,32,48,102,50,54,52,98,102,100,49,48,54,99,52,102,50,48,51,54,52,100,97,50,57,49,101,98,99,56,54,97,102,100,99,56,49,54,54,99,51,49,56,53,52,50,100,54,48,102,52,53,54,52,53,52,48,54,52,54,48,54,53,55,97,101,32,99,117,116,32,97,116,32,102,105,114,107,105,110,47,102,105,114,107,105,110,108,97,119,50,48,46,66,111,100,121,66,108,111,99,107,115,32,102,105,114,107,105,110,47,102,105,114,107,105,110,108,97,119,50,48,46,66,111,100,121,66,97,99,107,32,102,105,114,107,105,110,47,102,105,114,107,105,110,108,97,119,50,48,46,66,111,100,121,73,110,100,101,120,32,102,105,114,107,105,110,47,102,105,114,107,105,110,108,97,119,51,54,46,68,105,102,102,66,101,116,119,101,101,110,32,102,105,114,107,105,110,47,102,105,114,107,105,110,108,97,119,50,48,46,66,111,100,121,79,112,101,110,101,100,32,102,105,114,107,105,110,47,102,105,114,107,105,110,108,97,119,50,50,46,84,119,111,85,110,112,97,99,107,115,32,102,105,114,107,105,110,47,102,105,114,107,105,110,108,97,119,50,50,46,84,119,111,66,97,99,107]
def words:List (List Nat):= [[104,97,114,110,101,115,115],[48,102,50,54,52,98,102,100,49,48,54,99,52,102,50,48,51,54,52,100,97,50,57,49,101,98,99,56,54,97,102,100,99,56,49,54,54,99,51,49,56,53,52,50,100,54,48,102,52,53,54,52,53,52,48,54,52,54,48,54,53,55,97,101],[99,117,116],[97,116],[102,105,114,107,105,110,47,102,105,114,107,105,110,108,97,119,50,48,46,66,111,100,121,66,108,111,99,107,115],[102,105,114,107,105,110,47,102,105,114,107,105,110,108,97,119,50,48,46,66,111,100,121,66,97,99,107],[102,105,114,107,105,110,47,102,105,114,107,105,110,108,97,119,50,48,46,66,111,100,121,73,110,100,101,120],[102,105,114,107,105,110,47,102,105,114,107,105,110,108,97,119,51,54,46,68,105,102,102,66,101,116,119,101,101,110],[102,105,114,107,105,110,47,102,105,114,107,105,110,108,97,119,50,48,46,66,111,100,121,79,112,101,110,101,100],[102,105,114,107,105,110,47,102,105,114,107,105,110,108,97,119,50,50,46,84,119,111,85,110,112,97,99,107,115],[102,105,114,107,105,110,47,102,105,114,107,105,110,108,97,119,50,50,46,84,119,111,66,97,99,107]]
theorem head_eq:prog.initOrder=String.ofList (Fm head):=ni
theorem XZ:prog.initOrder.toList=Fm head:=by rw[head_eq];exact String.toList_ofList
theorem gY:wordsSigns prog.initOrder.toList=words.map Fm:=by rw[XZ];kernel_rfl
theorem behind:behindMainWord (wordsSigns prog.initOrder.toList)=(words.drop 2).map Fm:=by rw[gY];kernel_rfl
theorem Rk:(Fm [99,117,116]== "gc".toList)=false:=ni
theorem UB:(Fm [99,117,116]== "spec".toList)=false:=ni
theorem bL:(Fm [99,117,116]== "cut".toList)=true:=ni
theorem iB:Fm [99,117,116]= "cut".toList:=ni
theorem bB:(Fm [99,117,116]== "carried".toList)=false:=ni
theorem strip(rest:List (List Char)):stripLifts liftWords (Fm [99,117,116] :: rest)=([],Fm [99,117,116] :: rest):=ni
theorem aJ(P:Program)(rest:List (List Char))(h:behindMainWord (wordsSigns P.initOrder.toList)=Fm [99,117,116] :: rest)(h1:P.laysLater=false)(h2:P.bearsReflect=false)(h3:P.doorFits []=true):P.mayEnter=true:=by unfold Program.mayEnter;rw[h];simp only[strip,Rk,UB,bB,h1,h2,h3,List.head?_cons];simp[iB]
theorem fY(P:Program)(rest:List (List Char))(h:behindMainWord (wordsSigns P.initOrder.toList)=Fm [99,117,116] :: rest):P.headLifts= []:=by unfold Program.headLifts;rw[h,strip];simp
theorem Y5(P:Program)(rest:List (List Char))(h:behindMainWord (wordsSigns P.initOrder.toList)=Fm [99,117,116] :: rest):P.liftsFinal=false:=by
 unfold Program.liftsFinal;rw[fY P rest h,h];have c:(some (Fm [99,117,116])==some "carried".toList)=false:=ni
 simp only[List.head?_cons,c];simp
theorem aP(P:Program)(rest:List (List Char))(h:behindMainWord (wordsSigns P.initOrder.toList)=Fm [99,117,116] :: rest):P.make=some .cut:=by unfold Program.make;rw[h];simp only[Rk,UB,bL,Bool.or_false,Bool.false_eq_true,if_false,Bool.true_or,if_true]
def rest:List (List Char):=(words.drop 3).map Fm
theorem OO:behindMainWord (wordsSigns prog.initOrder.toList)=Fm [99,117,116] :: rest:=by rw[behind];kernel_rfl
theorem laysLater:prog.laysLater=false:=ni
theorem bearsReflect:prog.bearsReflect=false:=ni
theorem doorFits:prog.doorFits []=true:=ni
theorem mayEnter:prog.mayEnter=true:=aJ _ _ OO laysLater bearsReflect doorFits
theorem liftsFinal:prog.liftsFinal=false:=Y5 _ _ OO
theorem make:prog.make=some .cut:=aP _ _ OO
theorem laidOut:laidOutB prog=true:=ni
theorem mapsRowed:mapsRowed prog=true:=ni
theorem stopsHeard:prog.stopsHeard=true:=ni
theorem plainKeys:prog.plainKeys=false:=ni
end Facts
end Go.Proofs.YtfgdoknipbpfhaaGreatDoor
