/- Plain: rows of leave -/
import Derived.Test.YtbgoibedicbkjaaGreatDoorZBodyLogs19
import Derived.Test.YtbgoibedicbkjaaGreatDoorZBodyLogs14
import Derived.Deep.LoopGhost
import Derived.IntWalk
namespace Go.Proofs.YtbgoibedicbkjaaGreatDoor
namespace Lens
abbrev It:=Nat×List Nat
def YI(x:It):Bool:=x.2.length==1
def NQ:List It->List It
 |x :: y :: t=>(x.1+y.1,x.2++y.2) :: NQ t
 |_=> []
def mrg:List It->List It->List It
 | [],ps=>ps
 |l :: ls,[]=>l :: ls
 |l :: ls,p :: ps=>if l.1<=p.1 then l :: mrg ls (p :: ps)else p :: mrg (l :: ls) ps
termination_by ls ps=>ls.length+ps.length
def rowN(L:List It):Nat->List It
 |0=>L
 |r+1=>mrg L (NQ (rowN L r))
def lv(k:Nat->Nat)(S:List Nat):List It:=S.map fun s=>(k s,[s])
section
variable {k:Nat->Nat} {S:List Nat}
def nl(X:List It)(t:Nat):Nat:=(X.take t).countP YI
def lenR(k:Nat->Nat)(S:List Nat):Nat->Nat->Nat->Nat
 |0,t,s=>if s∈S.take (nl (rowN (lv k S) 0) t)then 1 else 0
 |r+1,t,s=>(if s∈S.take (nl (rowN (lv k S) (r+1)) t)then 1 else 0)+lenR k S r (2*(t-nl (rowN (lv k S) (r+1)) t)) s
end
def ins(k:Nat->Nat)(x:Nat):List Nat->List Nat
 | []=> [x]
 |y :: t=>if k x<k y then x :: y :: t else y :: ins k x t
def Ko(k:Nat->Nat):Nat->List Nat
 |0=> []
 |n+1=>if k n=0 then Ko k n else ins k n (Ko k n)
def Ys(ks:List Nat)(limit:Nat):List Nat:=
 let k:=fun s=>ks.getD s 0
 let S:=Ko k ks.length
 if S.length<2 then(List.range ks.length).map fun s=>if s∈S then 1 else 0
 else(List.range ks.length).map (lenR k S (limit-1) (2*S.length-2))
def Yd(ks:List Nat)(limit:Int):Int:=
 if ks.length>300∨limit<1∨limit>15 then 13 else if(Ko (fun s=>ks.getD s 0) ks.length).length>2 ^ limit.toNat then 6 else 0
def NF(ks:List Nat)(limit:Int):List Nat:=if Yd ks limit=0 then Ys ks limit.toNat else []
end Lens
namespace Lens
section
variable {k:Nat->Nat} {S:List Nat}
end
end Lens
namespace TW
open Canon Huff Lens
open Go.Proofs.YtbgoibedicbkjaaGreatDoor.Toks (Tk Pc Fl By bump N7 cnts Og lg pw)
def tokB(ls lf:List Nat)(t:Tk):List Bool:=
 word ls (Fl t).sym.toNat++if t.len=0 then []else
  msb (Fl t).len.toNat ((Fl t).sym.toNat-257) ((Fl t).sym.toNat-257)++(word lf (Fl t).dist.toNat++msb (Fl t).far.toNat (Fl t).dist.toNat (Fl t).dist.toNat)
def natL(l:List Int):List Nat:=l.map Int.toNat
def ksS(ts:List Tk):List Nat:=natL (Toks.symsOf ts)
def ksF(ts:List Tk):List Nat:=natL (Toks.Sv ts)
def lsS(ts:List Tk):List Nat:=NF (ksS ts) 15
def lsF(ts:List Tk):List Nat:=NF (ksF ts) 15
def X6(ts:List Tk):List Bool:=OX (lsS ts)++OX (lsF ts)++(ts.flatMap (tokB (lsS ts) (lsF ts))++word (lsS ts) 256)
def Ro(ts:List Tk):Int:=if 32768<ts.length then 6 else if Og ts=true then 0 else 7
def Xt(ts:List Tk):List Nat:=if Ro ts=0 then bytesOf (X6 ts)else []
end TW
namespace Huff
open Go.RowKit Mem Canon Own
end Huff
namespace Huff
open Go.RowKit Mem Canon Own
open Go.Proofs.YtbgoibedicbkjaaGreatDoor.Toks (Tk Pc Fl By)
end Huff
end Go.Proofs.YtbgoibedicbkjaaGreatDoor
