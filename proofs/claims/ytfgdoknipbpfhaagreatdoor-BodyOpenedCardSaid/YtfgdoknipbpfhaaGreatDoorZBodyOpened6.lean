/- The facts of the pro -/
import Derived.Test.YtfgdoknipbpfhaaGreatDoorZBodyOpened1
import Derived.Test.YtfgdoknipbpfhaaGreatDoorChecked
import Derived.KernelRfl
import Derived.JoinedOf
namespace Go.Proofs.YtfgdoknipbpfhaaGreatDoor
open Go.Proofs.Tryz
namespace Facts
def EY(l:List Nat):List Char:=l.map Char.ofNat
def head:List Nat:= [104,97,114,110,101,115,115,32,48,102,50,54,52,98,102,100,49,48,54,99,52,102,50,48,51,54,52,100,97,50,57,49,101,98,99,56,54,97,102,100,99,56,49,54,54,99,51,49,56,53,52,50,100,54,48,102,52,53,54,52,53,52,48,54,52,54,48,54,53,55,97,101,32,99,117,116,32,97,116,32,102,105,114,107,105,110,47,102,105,114,107,105,110,108,97,119,50,48,46,66,111,100,121,66,108,111,99,107,115,32,102,105,114,107,105,110,47,102,105,114,107,105,110,108,97,119,50,48,46,66,111,100,121,66,97,99,107,32,102,105,114,107,105,110,47,102,105,114,107,105,110,108,97,119,50,48,46,66,111,100,121,73,110,100,101,120,32,102,105,114,107,105,110,47,102,105,114,107,105,110,108,97,119,51,54,46,68,105,102,102,66,101,116,119,101,101,110,32,102,105,114,107,105,110,47,102,105,114,107,105,110,108,97,119,50,48,46,66,111,100,121,79,112,101,110,101,100,32,102,105,114,107,105,110,47,102,105,114,107,105,110,108,97,119,50,50,46,84,119,111,85,110,112,97,99,107,115,32,102,105,114,107,105,110,47,102,105,114,107,105,110,108,97,119,50,50,46,84,119,111,66,97,99,107]
def words:List (List Nat):= [[104,97,114,110,101,115,115],[48,102,50,54,52,98,102,100,49,48,54,99,52,102,50,48,51,54,52,100,97,50,57,49,101,98,99,56,54,97,102,100,99,56,49,54,54,99,51,49,56,53,52,50,100,54,48,102,52,53,54,52,53,52,48,54,52,54,48,54,53,55,97,101],[99,117,116],[97,116],[102,105,114,107,105,110,47,102,105,114,107,105,110,108,97,119,50,48,46,66,111,100,121,66,108,111,99,107,115],[102,105,114,107,105,110,47,102,105,114,107,105,110,108,97,119,50,48,46,66,111,100,121,66,97,99,107],[102,105,114,107,105,110,47,102,105,114,107,105,110,108,97,119,50,48,46,66,111,100,121,73,110,100,101,120],[102,105,114,107,105,110,47,102,105,114,107,105,110,108,97,119,51,54,46,68,105,102,102,66,101,116,119,101,101,110],[102,105,114,107,105,110,47,102,105,114,107,105,110,108,97,119,50,48,46,66,111,100,121,79,112,101,110,101,100],[102,105,114,107,105,110,47,102,105,114,107,105,110,108,97,119,50,50,46,84,119,111,85,110,112,97,99,107,115],[102,105,114,107,105,110,47,102,105,114,107,105,110,108,97,119,50,50,46,84,119,111,66,97,99,107]]
theorem head_eq:prog.initOrder=String.ofList (EY head):=mr
theorem Yp:prog.initOrder.toList=EY head:=by rw[head_eq];exact String.toList_ofList
theorem cW:wordsSigns prog.initOrder.toList=words.map EY:=by rw[Yp];kernel_rfl
theorem behind:behindMainWord (wordsSigns prog.initOrder.toList)=(words.drop 2).map EY:=by rw[cW];kernel_rfl
theorem RK:(EY [99,117,116]== "gc".toList)=false:=mr
theorem R9:(EY [99,117,116]== "spec".toList)=false:=mr
theorem fK:(EY [99,117,116]== "cut".toList)=true:=mr
theorem XZ:EY [99,117,116]= "cut".toList:=mr
theorem i4:(EY [99,117,116]== "carried".toList)=false:=mr
theorem strip(rest:List (List Char)):stripLifts liftWords (EY [99,117,116] :: rest)=([],EY [99,117,116] :: rest):=mr
theorem iF(P:Program)(rest:List (List Char))(h:behindMainWord (wordsSigns P.initOrder.toList)=EY [99,117,116] :: rest)(h1:P.laysLater=false)(h2:P.bearsReflect=false)(h3:P.doorFits []=true):P.mayEnter=true:=by unfold Program.mayEnter;rw[h];simp only[strip,RK,R9,i4,h1,h2,h3,List.head?_cons];simp[XZ]
theorem Ye(P:Program)(rest:List (List Char))(h:behindMainWord (wordsSigns P.initOrder.toList)=EY [99,117,116] :: rest):P.headLifts= []:=by unfold Program.headLifts;rw[h,strip];simp
theorem jU(P:Program)(rest:List (List Char))(h:behindMainWord (wordsSigns P.initOrder.toList)=EY [99,117,116] :: rest):P.liftsFinal=false:=by
 unfold Program.liftsFinal;rw[Ye P rest h,h];have c:(some (EY [99,117,116])==some "carried".toList)=false:=mr
 simp only[List.head?_cons,c];simp
theorem d7(P:Program)(rest:List (List Char))(h:behindMainWord (wordsSigns P.initOrder.toList)=EY [99,117,116] :: rest):P.make=some .cut:=by unfold Program.make;rw[h];simp only[RK,R9,fK,Bool.or_false,Bool.false_eq_true,if_false,Bool.true_or,if_true]
def rest:List (List Char):=(words.drop 3).map EY
theorem Pu:behindMainWord (wordsSigns prog.initOrder.toList)=EY [99,117,116] :: rest:=by rw[behind];kernel_rfl
theorem laysLater:prog.laysLater=false:=mr
theorem bearsReflect:prog.bearsReflect=false:=mr
theorem doorFits:prog.doorFits []=true:=mr
theorem mayEnter:prog.mayEnter=true:=iF _ _ Pu laysLater bearsReflect doorFits
theorem liftsFinal:prog.liftsFinal=false:=jU _ _ Pu
theorem make:prog.make=some .cut:=d7 _ _ Pu
theorem laidOut:laidOutB prog=true:=mr
theorem mapsRowed:mapsRowed prog=true:=mr
theorem stopsHeard:prog.stopsHeard=true:=mr
theorem plainKeys:prog.plainKeys=false:=mr
end Facts
end Go.Proofs.YtfgdoknipbpfhaaGreatDoor
