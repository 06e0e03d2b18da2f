/- The facts of the pro -/
import Derived.Test.YtfgdoknipbpfhaaGreatDoorZTwoBack1
import Derived.Test.YtfgdoknipbpfhaaGreatDoorChecked
import Derived.KernelRfl
import Derived.JoinedOf
namespace Go.Proofs.YtfgdoknipbpfhaaGreatDoor
open Go.Proofs.Tryz
namespace Facts
def Fw(l:List Nat):List Char:=l.map Char.ofNat
def head:List Nat:= [104,97,114,110,101,115,115,32,48,102,50,54,52,98,102,100,49,48,54,99,52,102,50,48,51,54,52,100,97,50,57,49,101,98,99,56,54,97,102,100,99,56,49,54,54,99,51,49,56,53,52,50,100,54,48,102,52,53,54,52,53,52,48,54,52,54,48,54,53,55,97,101,32,99,117,116,32,97,116,32,102,105,114,107,105,110,47,102,105,114,107,105,110,108,97,119,50,48,46,66,111,100,121,66,108,111,99,107,115,32,102,105,114,107,105,110,47,102,105,114,107,105,110,108,97,119,50,48,46,66,111,100,121,66,97,99,107,32,102,105,114,107,105,110,47,102,105,114,107,105,110,108,97,119,50,48,46,66,111,100,121,73,110,100,101,120,32,102,105,114,107,105,110,47,102,105,114,107,105,110,108,97,119,51,54,46,68,105,102,102,66,101,116,119,101,101,110,32,102,105,114,107,105,110,47,102,105,114,107,105,110,108,97,119,50,48,46,66,111,100,121,79,112,101,110,101,100,32,102,105,114,107,105,110,47,102,105,114,107,105,110,108,97,119,50,50,46,84,119,111,85,110,112,97,99,107,115,32,102,105,114,107,105,110,47,102,105,114,107,105,110,108,97,119,50,50,46,84,119,111,66,97,99,107]
def words:List (List Nat):= [[104,97,114,110,101,115,115],[48,102,50,54,52,98,102,100,49,48,54,99,52,102,50,48,51,54,52,100,97,50,57,49,101,98,99,56,54,97,102,100,99,56,49,54,54,99,51,49,56,53,52,50,100,54,48,102,52,53,54,52,53,52,48,54,52,54,48,54,53,55,97,101],[99,117,116],[97,116],[102,105,114,107,105,110,47,102,105,114,107,105,110,108,97,119,50,48,46,66,111,100,121,66,108,111,99,107,115],[102,105,114,107,105,110,47,102,105,114,107,105,110,108,97,119,50,48,46,66,111,100,121,66,97,99,107],[102,105,114,107,105,110,47,102,105,114,107,105,110,108,97,119,50,48,46,66,111,100,121,73,110,100,101,120],[102,105,114,107,105,110,47,102,105,114,107,105,110,108,97,119,51,54,46,68,105,102,102,66,101,116,119,101,101,110],[102,105,114,107,105,110,47,102,105,114,107,105,110,108,97,119,50,48,46,66,111,100,121,79,112,101,110,101,100],[102,105,114,107,105,110,47,102,105,114,107,105,110,108,97,119,50,50,46,84,119,111,85,110,112,97,99,107,115],[102,105,114,107,105,110,47,102,105,114,107,105,110,108,97,119,50,50,46,84,119,111,66,97,99,107]]
theorem head_eq:prog.initOrder=String.ofList (Fw head):=my
theorem dU:prog.initOrder.toList=Fw head:=by rw[head_eq];exact String.toList_ofList
theorem dI:wordsSigns prog.initOrder.toList=words.map Fw:=by rw[dU];kernel_rfl
theorem behind:behindMainWord (wordsSigns prog.initOrder.toList)=(words.drop 2).map Fw:=by rw[dI];kernel_rfl
theorem TU:(Fw [99,117,116]== "gc".toList)=false:=my
theorem RG:(Fw [99,117,116]== "spec".toList)=false:=my
theorem eN:(Fw [99,117,116]== "cut".toList)=true:=my
theorem Yp:Fw [99,117,116]= "cut".toList:=my
theorem j4:(Fw [99,117,116]== "carried".toList)=false:=my
theorem strip(rest:List (List Char)):stripLifts liftWords (Fw [99,117,116] :: rest)=([],Fw [99,117,116] :: rest):=my
theorem jE(P:Program)(rest:List (List Char))(h:behindMainWord (wordsSigns P.initOrder.toList)=Fw [99,117,116] :: rest)(h1:P.laysLater=false)(h2:P.bearsReflect=false)(h3:P.doorFits []=true):P.mayEnter=true:=by unfold Program.mayEnter;rw[h];simp only[strip,TU,RG,j4,h1,h2,h3,List.head?_cons];simp[Yp]
theorem XH(P:Program)(rest:List (List Char))(h:behindMainWord (wordsSigns P.initOrder.toList)=Fw [99,117,116] :: rest):P.headLifts= []:=by unfold Program.headLifts;rw[h,strip];simp
theorem pD(P:Program)(rest:List (List Char))(h:behindMainWord (wordsSigns P.initOrder.toList)=Fw [99,117,116] :: rest):P.liftsFinal=false:=by
 unfold Program.liftsFinal;rw[XH P rest h,h];have c:(some (Fw [99,117,116])==some "carried".toList)=false:=my
 simp only[List.head?_cons,c];simp
theorem dK(P:Program)(rest:List (List Char))(h:behindMainWord (wordsSigns P.initOrder.toList)=Fw [99,117,116] :: rest):P.make=some .cut:=by unfold Program.make;rw[h];simp only[TU,RG,eN,Bool.or_false,Bool.false_eq_true,if_false,Bool.true_or,if_true]
def rest:List (List Char):=(words.drop 3).map Fw
theorem Qr:behindMainWord (wordsSigns prog.initOrder.toList)=Fw [99,117,116] :: rest:=by rw[behind];kernel_rfl
theorem laysLater:prog.laysLater=false:=my
theorem bearsReflect:prog.bearsReflect=false:=my
theorem doorFits:prog.doorFits []=true:=my
theorem mayEnter:prog.mayEnter=true:=jE _ _ Qr laysLater bearsReflect doorFits
theorem liftsFinal:prog.liftsFinal=false:=pD _ _ Qr
theorem make:prog.make=some .cut:=dK _ _ Qr
theorem laidOut:laidOutB prog=true:=my
theorem mapsRowed:mapsRowed prog=true:=my
theorem stopsHeard:prog.stopsHeard=true:=my
theorem plainKeys:prog.plainKeys=false:=my
end Facts
end Go.Proofs.YtfgdoknipbpfhaaGreatDoor
