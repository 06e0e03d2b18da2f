/- How an argument that -/
import Derived.Test.YtbgoibedicbkjaaGreatDoorZBodyLogs3
import Derived.OpenShut
import Derived.Lib.SmallJoins
import Derived.Deep.Slices
import Derived.Deep.Fields
import Derived.ChangeSame
namespace Go.Proofs.YtbgoibedicbkjaaGreatDoor
namespace Open
open Go.ChangeShapes Go.WideShapes Go.RowKit Go.Deep Mem
def Jw(w:World)(A:Option Addr)(k:Nat):Int:=
 match A with
 |some a=>(match w.cell? ⟨a.block,a.off+k,none⟩with|some (.int _ n)=>n|_=>0)
 |none=>0
theorem XT{w:World}{b i k:Nat}{kd:IntKind}{n:Int}(h:w.cell? ⟨b,i+k,none⟩=some (.int kd n)):Jw w (some ⟨b,i,none⟩) k=n:=by simp[Jw,h]
section
variable {H:Type} {enc:TypeId×Value->H} {P:Program} {w:World} {base:Nat} {spare:Nat->Bool} {held:Bool}
theorem add_none(b h i:Nat):(⟨b,h,none⟩:Addr).add i=⟨b,h+i,none⟩:=by
 unfold Addr.add;split
 ·simp_all
 ·rfl
theorem VU{t e:TypeId}{fuel:Nat}{A:Option Addr}{len z:Nat}{x:DataW H×List MemPlace}(ht:P.underlying t=some (.slice e))(hC:P.cellsOf e=1)
 (h:DataW.trod enc P w base spare held fuel t [.slice A len z]=some x):
 len<=z/\z<=maxLen/\
 (0<len->∃b j,A=some ⟨b,j,none⟩/\b<w.heap.size/\∀i,i<len->
   ∃ (v:Value) (y:DataW H×List MemPlace) (n:Nat),w.cell? ⟨b,j+i,none⟩=some v/\DataW.trod enc P w base spare held n e [v]=some y):=by
 rcases open_slice ht h with ⟨h0,_⟩|⟨a,ac,ab,m,n,D,Pl,G,hb,hl,hm,Q,hx,hi⟩
 ·simp at h0;obtain⟨rfl,rfl,rfl⟩:=h0;exact⟨Aj _,AY _,fun h=>absurd h (by omega)⟩
 ·simp at G;obtain⟨rfl,rfl,rfl⟩:=G;refine⟨hl,hm,fun hn=> ?_⟩;have Z:len<=m:=by rw[Q];split<;>omega
  have cellAt:∀i,i<len->∃ (v:Value) (y:DataW H×List MemPlace) (n:Nat),w.cell? (a.add i)=some v/\DataW.trod enc P w base spare held n e [v]=some y:=by
   intro i M;obtain⟨U,hc,Y⟩:=hi i (by omega);rw[hC]at hc;obtain⟨_,N,aa⟩:=World.cells?_some hc
   match U,N with
   | [v],_=>have:=aa 0 (by omega);rw[add_add]at this;exact⟨v,_,n,by simpa using this,Y⟩
  obtain⟨b,j,J⟩:=a;obtain⟨v0,_,_,L,_⟩:=cellAt 0 hn;have E:J=none:=by have:=World.cell?_spot L;simpa[Addr.add]using this
  subst E;refine⟨b,j,rfl,?_,?_⟩
  ·have:=World.block_lt_of_cell? _ _ L;rw[add_none]at this;exact this
  ·intro i M;obtain⟨v,y,n,h1,h2⟩:=cellAt i M;rw[add_none]at h1;exact⟨v,y,n,h1,h2⟩
end
end Open
namespace Open
open Go.ChangeShapes Go.WideShapes Go.RowKit Go.Deep Mem Canon
theorem Xb{H:Type}{enc:TypeId×Value->H}{P:Program}{w:World}{base:Nat}{spare:Nat->Bool}{held:Bool}{fuel:Nat}{t e:TypeId}{A:Option Addr}{len j:Nat}{x:DataW H×List MemPlace}(ht:P.underlying t=some (.slice e))
 (h:DataW.trod enc P w base spare held fuel t [.slice A len j]=some x):Wf A len j:=by
 rcases open_slice ht h with ⟨h0,_⟩|⟨a,z,y,m,n,D,Pl,i,hb,hl,hm,E,hx,hi⟩
 ·simp at h0;obtain⟨rfl,rfl,rfl⟩:=h0;exact Wf.nil
 ·simp at i;obtain⟨rfl,rfl,rfl⟩:=i;exact Wf.some hl
theorem Vo{H:Type}{enc:TypeId×Value->H}{w:World}{base:Nat}{spare:Nat->Bool}{held:Bool}{fuel:Nat}{A:Option Addr}{len E:Nat}{x:DataW H×List MemPlace}
 (h:DataW.trod enc Tryz.prog w base spare held fuel 22 [.slice A len E]=some x):
 ∃ls:List Nat,ls.length=len/\(∀x∈ls,x<=255)/\Row w w.heap.size A len 1 (iZ .u8 ls)/\len<=9223372036854775807/\Wf A len E:=by
 have G:=Xb Tryz.underlying22 h;obtain⟨h1,h2,h3⟩:=VU Tryz.underlying22 (by kernel_rfl) h;have z:∀i,i<len->∃b y v,A=some ⟨b,y,none⟩/\b<w.heap.size/\w.cell? ⟨b,y+i,none⟩=some (.int .u8 (v:Nat))/\v<=255/\Jw w A i=(v:Nat):=by intro i hi;obtain⟨b,y,rfl,hb,hc⟩:=h3 (by omega);obtain⟨v0,y0,n0,c0,t0⟩:=hc i hi;obtain⟨x0,e0,_,w0⟩:=DataW.trod_int Tryz.underlying5 t0;simp only[List.cons.injEq,and_true]at e0;subst e0;have J:=bounds_u8 w0;obtain⟨m,rfl⟩:=J5 J.1;exact⟨b,y,m,rfl,hb,c0,by omega,XT c0⟩
 refine⟨(List.range len).map fun i=>(Jw w A i).toNat,by simp,?_,?_,by unfold maxLen at h2;omega,G⟩
 ·intro t ht;obtain⟨i,hi,rfl⟩:=Ep.1 ht;obtain⟨b,y,v,_,_,_,hv,e⟩:=z i (Eo.1 hi);rw[e];omega
 ·intro hn;obtain⟨b,y,v,rfl,hb,_⟩:=z 0 hn;refine⟨b,y,rfl,hb,fun i j hi hj=> ?_⟩;obtain rfl:j=0:=by omega
  obtain⟨b',L,v',e1,_,hc,_,e2⟩:=z i hi;injection e1 with e1;injection e1 with e1 e3;subst e1 e3;have e:iZ .u8 ((List.range len).map fun i=>(Jw w (some ⟨b,y,none⟩) i).toNat) i 0= .int .u8 (v':Nat):=by unfold iZ;rw[Ar,Bw,List.getElem?_range hi];simp[e2]
  rw[e,EM,CW];exact hc
end Open
end Go.Proofs.YtbgoibedicbkjaaGreatDoor
