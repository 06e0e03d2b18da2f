/- The facts of the pro -/
import Derived.Test.YtbgoibedicbkjaaGreatDoorChecked
import Derived.KernelRfl
import Derived.JoinedOf
namespace Go.Proofs.YtbgoibedicbkjaaGreatDoor
namespace Facts
def DV(l:List Nat):List Char:=l.map Char.ofNat
def head:List Nat:= [104,97,114,110,101,115,115,32,51,56,97,99,52,99,49,49,49,98,98,55,55,98,102,49,100,52,53,53,54,102,56,57,49,50,55,49,97,97,99,51,50,102,53,51,100,48,99,100,98,97,57,97,56,50,97,98,98,55,52,49,48,49,54,98,51,97,53,50,48,56,102,99,32,99,117,116,32,97,116,32,102,105,114,107,105,110,47,102,105,114,107,105,110,108,97,119,50,50,46,84,119,111,79,112,101,110,115,32,102,105,114,107,105,110,47,102,105,114,107,105,110,108,97,119,50,48,46,66,111,100,121,66,108,111,99,107,115,32,102,105,114,107,105,110,47,102,105,114,107,105,110,108,97,119,50,48,46,66,111,100,121,76,111,103,115,32,102,105,114,107,105,110,47,102,105,114,107,105,110,108,97,119,50,48,46,66,111,100,121,79,112,101,110,101,100,32,102,105,114,107,105,110,47,102,105,114,107,105,110,108,97,119,50,50,46,84,119,111,85,110,112,97,99,107,115]
def words:List (List Nat):= [[104,97,114,110,101,115,115],[51,56,97,99,52,99,49,49,49,98,98,55,55,98,102,49,100,52,53,53,54,102,56,57,49,50,55,49,97,97,99,51,50,102,53,51,100,48,99,100,98,97,57,97,56,50,97,98,98,55,52,49,48,49,54,98,51,97,53,50,48,56,102,99],[99,117,116],[97,116],[102,105,114,107,105,110,47,102,105,114,107,105,110,108,97,119,50,50,46,84,119,111,79,112,101,110,115],[102,105,114,107,105,110,47,102,105,114,107,105,110,108,97,119,50,48,46,66,111,100,121,66,108,111,99,107,115],[102,105,114,107,105,110,47,102,105,114,107,105,110,108,97,119,50,48,46,66,111,100,121,76,111,103,115],[102,105,114,107,105,110,47,102,105,114,107,105,110,108,97,119,50,48,46,66,111,100,121,79,112,101,110,101,100],[102,105,114,107,105,110,47,102,105,114,107,105,110,108,97,119,50,50,46,84,119,111,85,110,112,97,99,107,115]]
theorem head_eq:Tryz.prog.initOrder=String.ofList (DV head):=by kernel_rfl
theorem X4:Tryz.prog.initOrder.toList=DV head:=by rw[head_eq];exact String.toList_ofList
theorem WU:wordsSigns Tryz.prog.initOrder.toList=words.map DV:=by rw[X4];kernel_rfl
theorem behind:behindMainWord (wordsSigns Tryz.prog.initOrder.toList)=(words.drop 2).map DV:=by rw[WU];kernel_rfl
theorem Rl:(DV [99,117,116]== "gc".toList)=false:=by kernel_rfl
theorem PJ:(DV [99,117,116]== "spec".toList)=false:=by kernel_rfl
theorem Ti:(DV [99,117,116]== "cut".toList)=true:=by kernel_rfl
theorem T1:DV [99,117,116]= "cut".toList:=by kernel_rfl
theorem VA:(DV [99,117,116]== "carried".toList)=false:=by kernel_rfl
theorem strip(rest:List (List Char)):stripLifts liftWords (DV [99,117,116] :: rest)=([],DV [99,117,116] :: rest):=by kernel_rfl
theorem Vj(P:Program)(rest:List (List Char))(h:behindMainWord (wordsSigns P.initOrder.toList)=DV [99,117,116] :: rest)(h1:P.laysLater=false)(h2:P.bearsReflect=false)(h3:P.doorFits []=true):P.mayEnter=true:=by unfold Program.mayEnter;rw[h];simp only[strip,Rl,PJ,VA,h1,h2,h3,List.head?_cons];simp[T1]
theorem Vl(P:Program)(rest:List (List Char))(h:behindMainWord (wordsSigns P.initOrder.toList)=DV [99,117,116] :: rest):P.headLifts= []:=by unfold Program.headLifts;rw[h,strip];simp
theorem Uc(P:Program)(rest:List (List Char))(h:behindMainWord (wordsSigns P.initOrder.toList)=DV [99,117,116] :: rest):P.liftsFinal=false:=by
 unfold Program.liftsFinal;rw[Vl P rest h,h];have c:(some (DV [99,117,116])==some "carried".toList)=false:=by kernel_rfl
 simp only[List.head?_cons,c];simp
theorem S3(P:Program)(rest:List (List Char))(h:behindMainWord (wordsSigns P.initOrder.toList)=DV [99,117,116] :: rest):P.make=some .cut:=by unfold Program.make;rw[h];simp only[Rl,PJ,Ti,Bool.or_false,Bool.false_eq_true,if_false,Bool.true_or,if_true]
def rest:List (List Char):=(words.drop 3).map DV
theorem MK:behindMainWord (wordsSigns Tryz.prog.initOrder.toList)=DV [99,117,116] :: rest:=by rw[behind];kernel_rfl
theorem laysLater:Tryz.prog.laysLater=false:=by kernel_rfl
theorem bearsReflect:Tryz.prog.bearsReflect=false:=by kernel_rfl
theorem doorFits:Tryz.prog.doorFits []=true:=by kernel_rfl
theorem mayEnter:Tryz.prog.mayEnter=true:=Vj _ _ MK laysLater bearsReflect doorFits
theorem liftsFinal:Tryz.prog.liftsFinal=false:=Uc _ _ MK
theorem make:Tryz.prog.make=some .cut:=S3 _ _ MK
theorem laidOut:laidOutB Tryz.prog=true:=by kernel_rfl
theorem mapsRowed:mapsRowed Tryz.prog=true:=by kernel_rfl
theorem stopsHeard:Tryz.prog.stopsHeard=true:=by kernel_rfl
theorem plainKeys:Tryz.prog.plainKeys=false:=by kernel_rfl
end Facts
end Go.Proofs.YtbgoibedicbkjaaGreatDoor
