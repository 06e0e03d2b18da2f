/- The facts of the program that every claim asks. (The head's words are  -/
import Derived.Test.YtnpglnpfmeeboaaGreatDoorChecked
import Derived.KernelRfl
import Derived.JoinedOf
namespace Go.Proofs.YtnpglnpfmeeboaaGreatDoor end Go.Proofs.YtnpglnpfmeeboaaGreatDoor open Go.Proofs.YtnpglnpfmeeboaaGreatDoor
namespace Go.Proofs.YtnpglnpfmeeboaaGreatDoor.Facts
def ncZ(l:List Nat):List Char:=l.map Char.ofNat
def head:List Nat:= [104,97,114,110,101,115,115,32,98,48,56,51,56,56,101,101,55,97,101,102,100,102,98,98,55,51,102,97,51,48,48,57,50,57,55,48,53,97,100,56,53,54,102,99,52,101,49,99,100,99,48,51,54,54,50,52,51,101,52,57,52,53,48,102,51,99,57,51,49,102,50,102,32,99,117,116,32,97,116,32,102,105,114,107,105,110,47,102,105,114,107,105,110,108,97,119,50,48,46,66,111,100,121,79,112,101,110,115,32,102,105,114,107,105,110,47,102,105,114,107,105,110,108,97,119,50,50,46,84,119,111,79,112,101,110,115,32,102,105,114,107,105,110,47,102,105,114,107,105,110,108,97,119,50,48,46,66,111,100,121,76,111,103,115,32,102,105,114,107,105,110,47,102,105,114,107,105,110,108,97,119,50,48,46,66,111,100,121,66,108,111,99,107,115,32,102,105,114,107,105,110,47,102,105,114,107,105,110,108,97,119,50,48,46,66,111,100,121,79,112,101,110,101,100,32,102,105,114,107,105,110,47,102,105,114,107,105,110,108,97,119,50,50,46,84,119,111,85,110,112,97,99,107,115]
def words:List (List Nat):= [[104,97,114,110,101,115,115],[98,48,56,51,56,56,101,101,55,97,101,102,100,102,98,98,55,51,102,97,51,48,48,57,50,57,55,48,53,97,100,56,53,54,102,99,52,101,49,99,100,99,48,51,54,54,50,52,51,101,52,57,52,53,48,102,51,99,57,51,49,102,50,102],[99,117,116],[97,116],[102,105,114,107,105,110,47,102,105,114,107,105,110,108,97,119,50,48,46,66,111,100,121,79,112,101,110,115],[102,105,114,107,105,110,47,102,105,114,107,105,110,108,97,119,50,50,46,84,119,111,79,112,101,110,115],[102,105,114,107,105,110,47,102,105,114,107,105,110,108,97,119,50,48,46,66,111,100,121,76,111,103,115],[102,105,114,107,105,110,47,102,105,114,107,105,110,108,97,119,50,48,46,66,111,100,121,66,108,111,99,107,115],[102,105,114,107,105,110,47,102,105,114,107,105,110,108,97,119,50,48,46,66,111,100,121,79,112,101,110,101,100],[102,105,114,107,105,110,47,102,105,114,107,105,110,108,97,119,50,50,46,84,119,111,85,110,112,97,99,107,115]]
theorem head_eq:Tryz.prog.initOrder=String.ofList (ncZ head):=by kernel_rfl
theorem keZb:Tryz.prog.initOrder.toList=ncZ head:=by rw[head_eq];exact String.toList_ofList
theorem mkZb:wordsSigns Tryz.prog.initOrder.toList=words.map ncZ:=by rw[keZb];kernel_rfl
theorem behind:behindMainWord (wordsSigns Tryz.prog.initOrder.toList)=(words.drop 2).map ncZ:=by rw[mkZb];kernel_rfl
theorem leZb:(ncZ [99,117,116]== "gc".toList)=false:=by kernel_rfl
theorem qvZ:(ncZ [99,117,116]== "spec".toList)=false:=by kernel_rfl
theorem ijZb:(ncZ [99,117,116]== "cut".toList)=true:=by kernel_rfl
theorem uhZb:ncZ [99,117,116]= "cut".toList:=by kernel_rfl
theorem hxZ:(ncZ [99,117,116]== "carried".toList)=false:=by kernel_rfl
theorem strip(rest:List (List Char)):stripLifts liftWords (ncZ [99,117,116] :: rest)=([],ncZ [99,117,116] :: rest):=by kernel_rfl
theorem ixZ(P:Program)(rest:List (List Char))(h:behindMainWord (wordsSigns P.initOrder.toList)=ncZ [99,117,116] :: rest)(h1:P.laysLater=false)(h2:P.bearsReflect=false)(h3:P.doorFits []=true):P.mayEnter=true:=by
 unfold Program.mayEnter
 rw[h]
 simp only[strip,leZb,qvZ,hxZ,h1,h2,h3,List.head?_cons]
 simp[uhZb]
theorem rvZ(P:Program)(rest:List (List Char))(h:behindMainWord (wordsSigns P.initOrder.toList)=ncZ [99,117,116] :: rest):P.headLifts= []:=by
 unfold Program.headLifts
 rw[h,strip]
 simp
theorem ssZ(P:Program)(rest:List (List Char))(h:behindMainWord (wordsSigns P.initOrder.toList)=ncZ [99,117,116] :: rest):P.liftsFinal=false:=by
 unfold Program.liftsFinal
 rw[rvZ P rest h,h]
 have c:(some (ncZ [99,117,116])==some "carried".toList)=false:=by kernel_rfl
 simp only[List.head?_cons,c]
 simp
theorem jjZb(P:Program)(rest:List (List Char))(h:behindMainWord (wordsSigns P.initOrder.toList)=ncZ [99,117,116] :: rest):P.make=some .cut:=by
 unfold Program.make
 rw[h]
 simp only[leZb,qvZ,ijZb,Bool.or_false,Bool.false_eq_true,if_false,Bool.true_or,if_true]
def rest:List (List Char):=(words.drop 3).map ncZ
theorem brZ:behindMainWord (wordsSigns Tryz.prog.initOrder.toList)=ncZ [99,117,116] :: rest:=by rw[behind];kernel_rfl
theorem laysLater:Tryz.prog.laysLater=false:=by kernel_rfl
theorem bearsReflect:Tryz.prog.bearsReflect=false:=by kernel_rfl
theorem doorFits:Tryz.prog.doorFits []=true:=by kernel_rfl
theorem mayEnter:Tryz.prog.mayEnter=true:=ixZ _ _ brZ laysLater bearsReflect doorFits
theorem liftsFinal:Tryz.prog.liftsFinal=false:=ssZ _ _ brZ
theorem make:Tryz.prog.make=some .cut:=jjZb _ _ brZ
theorem laidOut:laidOutB Tryz.prog=true:=by kernel_rfl
theorem mapsRowed:mapsRowed Tryz.prog=true:=by kernel_rfl
theorem stopsHeard:Tryz.prog.stopsHeard=true:=by kernel_rfl
theorem plainKeys:Tryz.prog.plainKeys=false:=by kernel_rfl
end Go.Proofs.YtnpglnpfmeeboaaGreatDoor.Facts
