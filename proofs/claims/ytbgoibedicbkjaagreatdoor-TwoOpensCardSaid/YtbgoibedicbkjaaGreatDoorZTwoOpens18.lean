/- Plain: rows of leaves and pairs (chapter 7): what lengths they give. P -/
import Derived.Test.YtbgoibedicbkjaaGreatDoorZTwoOpens2
import Derived.Test.YtbgoibedicbkjaaGreatDoorZTwoOpens16
import Derived.Test.YtbgoibedicbkjaaGreatDoorZTwoOpens3
import Derived.Test.YtbgoibedicbkjaaGreatDoorZTwoOpens1
import Derived.Test.YtbgoibedicbkjaaGreatDoorZTwoOpens17
import Derived.Test.YtbgoibedicbkjaaGreatDoorZTwoOpens12
import Derived.Test.YtbgoibedicbkjaaGreatDoorProg
import Derived.BigRegion
import Derived.BigQuiet
import Derived.BigGuardPart
import Derived.Deep.QuietTactic
import Derived.Deep.Light
import Derived.Deep.LoopGhost
import Derived.Deep.DeepCutAuto
import Derived.IntWalk
import Derived.Deep.RegionWith
import Derived.Laws.MakeOwn
namespace Go.Proofs.YtbgoibedicbkjaaGreatDoor end Go.Proofs.YtbgoibedicbkjaaGreatDoor open Go.Proofs.YtbgoibedicbkjaaGreatDoor
open Go.Lib (hid)
namespace Go.Proofs.YtbgoibedicbkjaaGreatDoor.Lens
abbrev It:=Nat×List Nat
def olZb(x:It):Bool:=x.2.length==1
def eaZb:List It->List It
 |x :: y :: t=>(x.1+y.1,x.2++y.2) :: eaZb t
 |_=> []
def mrg:List It->List It->List It
 | [],ps=>ps
 |l :: ls,[]=>l :: ls
 |l :: ls,p :: ps=>if l.1<=p.1 then l :: mrg ls (p :: ps)else p :: mrg (l :: ls) ps
termination_by ls ps=>ls.length+ps.length
def rowN(L:List It):Nat->List It
 |0=>L
 |r+1=>mrg L (eaZb (rowN L r))
def lv(k:Nat->Nat)(S:List Nat):List It:=S.map fun s=>(k s,[s])
section
variable {k:Nat->Nat} {S:List Nat}
def nl(X:List It)(t:Nat):Nat:=(X.take t).countP olZb
def lenR(k:Nat->Nat)(S:List Nat):Nat->Nat->Nat->Nat
 |0,t,s=>if s∈S.take (nl (rowN (lv k S) 0) t)then 1 else 0
 |r+1,t,s=>(if s∈S.take (nl (rowN (lv k S) (r+1)) t)then 1 else 0)+lenR k S r (2*(t-nl (rowN (lv k S) (r+1)) t)) s
end
def ins(k:Nat->Nat)(x:Nat):List Nat->List Nat
 | []=> [x]
 |y :: t=>if k x<k y then x :: y :: t else y :: ins k x t
def duZ(k:Nat->Nat):Nat->List Nat
 |0=> []
 |n+1=>if k n=0 then duZ k n else ins k n (duZ k n)
def plZb(ks:List Nat)(limit:Nat):List Nat:=
 let k:=fun s=>ks.getD s 0
 let S:=duZ k ks.length
 if S.length<2 then(List.range ks.length).map fun s=>if s∈S then 1 else 0
 else(List.range ks.length).map (lenR k S (limit-1) (2*S.length-2))
def qlZb(ks:List Nat)(limit:Int):Int:=
 if ks.length>300∨limit<1∨limit>15 then 13 else if(duZ (fun s=>ks.getD s 0) ks.length).length>2 ^ limit.toNat then 6 else 0
def ejZb(ks:List Nat)(limit:Int):List Nat:=if qlZb ks limit=0 then plZb ks limit.toNat else []
end Go.Proofs.YtbgoibedicbkjaaGreatDoor.Lens
namespace Go.Proofs.YtbgoibedicbkjaaGreatDoor.Lens
section
variable {k:Nat->Nat} {S:List Nat}
end
end Go.Proofs.YtbgoibedicbkjaaGreatDoor.Lens
namespace Go.Proofs.YtbgoibedicbkjaaGreatDoor.TW
open Canon Huff Lens
open Go.Proofs.YtbgoibedicbkjaaGreatDoor.Toks (Tk Pc efZ rmZ bump pyZ cnts ajZb lg pw)
def tokB(ls lf:List Nat)(t:Tk):List Bool:=
 word ls (efZ t).sym.toNat++if t.len=0 then []else
  msb (efZ t).len.toNat ((efZ t).sym.toNat-257) ((efZ t).sym.toNat-257)++(word lf (efZ t).dist.toNat++msb (efZ t).far.toNat (efZ t).dist.toNat (efZ t).dist.toNat)
def natL(l:List Int):List Nat:=l.map Int.toNat
def ksS(ts:List Tk):List Nat:=natL (Toks.symsOf ts)
def ksF(ts:List Tk):List Nat:=natL (Toks.skZb ts)
def lsS(ts:List Tk):List Nat:=ejZb (ksS ts) 15
def lsF(ts:List Tk):List Nat:=ejZb (ksF ts) 15
def ucZb(ts:List Tk):List Bool:=ncZb (lsS ts)++ncZb (lsF ts)++(ts.flatMap (tokB (lsS ts) (lsF ts))++word (lsS ts) 256)
def vcZb(ts:List Tk):Int:=if 32768<ts.length then 6 else if ajZb ts=true then 0 else 7
def xkZb(ts:List Tk):List Nat:=if vcZb ts=0 then bytesOf (ucZb ts)else []
end Go.Proofs.YtbgoibedicbkjaaGreatDoor.TW
namespace Go.Proofs.YtbgoibedicbkjaaGreatDoor.Huff
open Go.RowKit Mem Canon Own
end Go.Proofs.YtbgoibedicbkjaaGreatDoor.Huff
namespace Go.Proofs.YtbgoibedicbkjaaGreatDoor.Huff
open Go.RowKit Mem Canon Own
open Go.Proofs.YtbgoibedicbkjaaGreatDoor.Toks (Tk Pc efZ rmZ)
end Go.Proofs.YtbgoibedicbkjaaGreatDoor.Huff
namespace Go.Proofs.YtbgoibedicbkjaaGreatDoor.Huff
open Go.RowKit Mem Canon
set_option maxRecDepth 100000 in
theorem faZb(w:World)(g:Nat)(A:Option Addr)(n c:Nat)(ls:List Nat)(hn:ls.length=n)(hle:n<=100000)(hnil:A=none->n=0/\c=0)
 (hg:w.cell? ⟨g,0,none⟩=some (.slice A n c))(ha:Row w w.heap.size A n 1 (mZ .u8 ls)):
 Calls Tryz.prog 155 #[.pointer (some ⟨g,0,none⟩)] w fun e w'=>∃v,e= .returned v/\w'.ownsRow w.heap.size 5 1 v n (cZ .u8 ls)/\Below w.heap.size w w':=by
 have C:=hid (mgZ w A n c ls hn hle hnil ha)
 clear hn hle hnil ha
 go_enter Tryz.func155,Tryz.ntmps155
 go_wp2_with fail
 refine C.out.mono ?_
 rintro e w1 ⟨v,rfl,hv,hb⟩
 go_wp2_with fail
 go_ret
 exact⟨_,rfl,hv,hb⟩
end Go.Proofs.YtbgoibedicbkjaaGreatDoor.Huff
namespace Go.Proofs.YtbgoibedicbkjaaGreatDoor.Huff
open Go.RowKit Mem Canon Own
theorem Wr.rowOf{K:Nat->Prop}{w:World}{base g c:Nat}{t:TypeId}{rest:List Value}{bs:List Bool}{A:Option Addr}{n:Nat}(h:Wr K w base g t rest bs (.slice A n c)):(bytesOf bs).length=n/\Row w w.heap.size A n 1 (mZ .u8 (bytesOf bs))/\(A=none->n=0/\c=0):=by
 have ho:=h.own
 have hn:(bytesOf bs).length=n:=by
  rcases ho.2 with ⟨hv,hx⟩|⟨g,cap,cur,hv,_⟩
  ·injection hv with _ e _
   exact hx.trans e.symm
  ·injection hv with _ e _
   exact e.symm
 rw[hn]at ho
 exact⟨hn,Row.of_own ho rfl (fun i j hi hj=>by have e0:j=0:=(by omega);subst e0;exact numL_get (by omega)),(lfZ ho).1⟩
end Go.Proofs.YtbgoibedicbkjaaGreatDoor.Huff
namespace Go.Proofs.YtbgoibedicbkjaaGreatDoor.Huff
open Go.RowKit Mem Canon Own
open Go.Proofs.YtbgoibedicbkjaaGreatDoor.Toks (Tk Pc efZ rmZ)
theorem Wr.start4{K:Nat->Prop}(w:World)(base:Nat)(t:TypeId)(rest:List Value)(hbase:base<=w.heap.size)(hK:∀k,K k->k<w.heap.size):Wr K (w.alloc (.cells (List.toArray (.slice none 0 0 :: .int .i64 0 :: rest)) t)) base w.heap.size t rest [] (.slice none 0 0):=by
 refine⟨Blk.made _ _ _,World.ownsRow_nil _ _ _ _,(fun h=>by cases h),by simp;omega,(fun h=>by have:=hK _ h;omega),(fun x h=>by cases h),fun k h=>by have:=hK k h;simp;omega⟩
end Go.Proofs.YtbgoibedicbkjaaGreatDoor.Huff
