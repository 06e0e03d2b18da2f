/- Plain: rows of leave -/
import Derived.Test.YtfgdoknipbpfhaaGreatDoorZTwoUnpacks19
import Derived.Test.YtfgdoknipbpfhaaGreatDoorZTwoUnpacks14
import Derived.Deep.LoopGhost
import Derived.IntWalk
namespace Go.Proofs.YtfgdoknipbpfhaaGreatDoor
namespace Lens
abbrev It:=Nat×List Nat
def Yl(x:It):Bool:=x.2.length==1
def Se:List It->List It
 |x :: y :: t=>(x.1+y.1,x.2++y.2) :: Se t
 |_=> []
def mrg:List It->List It->List It
 | [],ps=>ps
 |l :: ls,[]=>l :: ls
 |l :: ls,p :: ps=>if l.1<=p.1 then l :: mrg ls (p :: ps)else p :: mrg (l :: ls) ps
termination_by ls ps=>ls.length+ps.length
def rowN(L:List It):Nat->List It
 |0=>L
 |r+1=>mrg L (Se (rowN L r))
def lv(k:Nat->Nat)(S:List Nat):List It:=S.map fun s=>(k s,[s])
section
variable {k:Nat->Nat} {S:List Nat}
def nl(X:List It)(t:Nat):Nat:=(X.take t).countP Yl
def lenR(k:Nat->Nat)(S:List Nat):Nat->Nat->Nat->Nat
 |0,t,s=>if s∈S.take (nl (rowN (lv k S) 0) t)then 1 else 0
 |r+1,t,s=>(if s∈S.take (nl (rowN (lv k S) (r+1)) t)then 1 else 0)+lenR k S r (2*(t-nl (rowN (lv k S) (r+1)) t)) s
end
def ins(k:Nat->Nat)(x:Nat):List Nat->List Nat
 | []=> [x]
 |y :: t=>if k x<k y then x :: y :: t else y :: ins k x t
def Ls(k:Nat->Nat):Nat->List Nat
 |0=> []
 |n+1=>if k n=0 then Ls k n else ins k n (Ls k n)
def X5(ks:List Nat)(limit:Nat):List Nat:=
 let k:=fun s=>ks.getD s 0
 let S:=Ls k ks.length
 if S.length<2 then(List.range ks.length).map fun s=>if s∈S then 1 else 0
 else(List.range ks.length).map (lenR k S (limit-1) (2*S.length-2))
def XP(ks:List Nat)(limit:Int):Int:=
 if ks.length>300∨limit<1∨limit>15 then 13 else if(Ls (fun s=>ks.getD s 0) ks.length).length>2 ^ limit.toNat then 6 else 0
def RZ(ks:List Nat)(limit:Int):List Nat:=if XP ks limit=0 then X5 ks limit.toNat else []
end Lens
namespace Lens
end Lens
namespace TW
open Canon Huff Lens
open Toks (Tk Pc FT BS bump Qc cnts SJ lg pw)
def tokB(ls lf:List Nat)(t:Tk):List Bool:=
 word ls (FT t).sym.toNat++if t.len=0 then []else
  msb (FT t).len.toNat ((FT t).sym.toNat-257) ((FT t).sym.toNat-257)++(word lf (FT t).dist.toNat++msb (FT t).far.toNat (FT t).dist.toNat (FT t).dist.toNat)
def natL(l:List Int):List Nat:=l.map Int.toNat
def ksS(ts:List Tk):List Nat:=natL (Toks.symsOf ts)
def ksF(ts:List Tk):List Nat:=natL (Toks.Y5 ts)
def lsS(ts:List Tk):List Nat:=RZ (ksS ts) 15
def lsF(ts:List Tk):List Nat:=RZ (ksF ts) 15
def Zc(ts:List Tk):List Bool:=PR (lsS ts)++PR (lsF ts)++(ts.flatMap (tokB (lsS ts) (lsF ts))++word (lsS ts) 256)
def Sw(ts:List Tk):Int:=if 32768<ts.length then 6 else if SJ ts=true then 0 else 7
def Xi(ts:List Tk):List Nat:=if Sw ts=0 then bytesOf (Zc ts)else []
end TW
namespace Huff
open Go.RowKit Mem Canon Own
end Huff
namespace Huff
open Go.RowKit Mem Canon Own
open Toks (Tk Pc FT BS)
end Huff
end Go.Proofs.YtfgdoknipbpfhaaGreatDoor
