/- How an argument that -/
import Derived.Test.YtfgdoknipbpfhaaGreatDoorZTwoUnpacks3
import Derived.OpenShut
import Derived.Lib.SmallJoins
import Derived.Deep.Slices
import Derived.Deep.Fields
import Derived.ChangeSame
namespace Go.Proofs.YtfgdoknipbpfhaaGreatDoor
open Go.Proofs.Tryz
variable{w:World}{e t:TypeId}{E base fuel:Nat}{A:Option Addr}{held:Bool}
namespace Open
open Go.ChangeShapes Go.WideShapes Go.RowKit Go.Deep Mem
def J6(w:World)(A:Option Addr)(k:Nat):Int:=
 match A with
 |some a=>(match w.cell? ⟨a.block,a.off+k,none⟩with|some (.int _ n)=>n|_=>0)
 |none=>0
theorem Ze{b i k:Nat}{kd:IntKind}{n:Int}(h:w.cell? ⟨b,i+k,none⟩=some (.int kd n)):J6 w (some ⟨b,i,none⟩) k=n:=by simp[J6,h]
section
variable {H:Type} {enc:TypeId×Value->H} {P:Program} {w:World} {base:Nat} {spare:Nat->Bool} {held:Bool}
theorem add_none(b h i:Nat):(⟨b,h,none⟩:Addr).add i=⟨b,h+i,none⟩:=by
 unfold Addr.add;split
 ·simp_all
 ·rfl
theorem Vc{len:Nat}{x:DataW H×List MemPlace}(ht:P.underlying t=some (.slice e))(hC:P.cellsOf e=1)
 (h:DataW.trod enc P w base spare held fuel t [.slice A len E]=some x):
 len<=E/\E<=maxLen/\
 (0<len->∃b j,A=some ⟨b,j,none⟩/\b<w.heap.size/\∀i,i<len->
   ∃ (v:Value) (y:DataW H×List MemPlace) (n:Nat),w.cell? ⟨b,j+i,none⟩=some v/\DataW.trod enc P w base spare held n e [v]=some y):=by
 rcases open_slice ht h with ⟨h0,_⟩|⟨a,ac,ab,m,n,D,Pl,J,hb,hl,hm,U,hx,hi⟩
 ·simp at h0;obtain⟨rfl,rfl,rfl⟩:=h0;exact⟨Ai _,Ba _,fun h=>absurd h kR⟩
 ·simp at J;obtain⟨rfl,rfl,rfl⟩:=J;refine⟨hl,hm,fun hn=> ?_⟩;have Z:len<=m:=by rw[U];split<;>omega
  have cellAt:∀i,i<len->∃ (v:Value) (y:DataW H×List MemPlace) (n:Nat),w.cell? (a.add i)=some v/\DataW.trod enc P w base spare held n e [v]=some y:=by
   intro i L;obtain⟨Q,hc,Y⟩:=hi i kR;rw[hC]at hc;obtain⟨_,N,aa⟩:=World.cells?_some hc
   match Q,N with
   | [v],_=>have:=aa 0 kR;rw[add_add]at this;exact⟨v,_,n,by simpa using this,Y⟩
  obtain⟨b,j,M⟩:=a;obtain⟨v0,_,_,G,_⟩:=cellAt 0 hn;have z:M=none:=by have:=World.cell?_spot G;simpa[Addr.add]using this
  subst z;refine⟨b,j,rfl,?_,?_⟩
  ·have:=World.block_lt_of_cell? _ _ G;rw[add_none]at this;exact this
  ·intro i L;obtain⟨v,y,n,h1,h2⟩:=cellAt i L;rw[add_none]at h1;exact⟨v,y,n,h1,h2⟩
end
end Open
namespace Open
open Go.ChangeShapes Go.WideShapes Go.RowKit Go.Deep Mem Canon
theorem Wo{H:Type}{enc:TypeId×Value->H}{P:Program}{spare:Nat->Bool}{len j:Nat}{x:DataW H×List MemPlace}(ht:P.underlying t=some (.slice e))
 (h:DataW.trod enc P w base spare held fuel t [.slice A len j]=some x):Wf A len j:=by
 rcases open_slice ht h with ⟨h0,_⟩|⟨a,z,y,m,n,D,Pl,i,hb,hl,hm,E,hx,hi⟩
 ·simp at h0;obtain⟨rfl,rfl,rfl⟩:=h0;exact Wf.nil
 ·simp at i;obtain⟨rfl,rfl,rfl⟩:=i;exact Wf.some hl
theorem UV{H:Type}{enc:TypeId×Value->H}{spare:Nat->Bool}{len:Nat}{x:DataW H×List MemPlace}
 (h:DataW.trod enc prog w base spare held fuel 28 [.slice A len E]=some x):
 ∃ls:List Nat,ls.length=len/\(∀x∈ls,x<=255)/\Row w w A len 1 (jZ .u8 ls)/\len<=9223372036854775807/\Wf A len E:=by
 have G:=Wo underlying28 h;obtain⟨h1,h2,h3⟩:=Vc underlying28 kG h;have z:∀i,i<len->∃b y v,A=some ⟨b,y,none⟩/\b<w.heap.size/\w.cell? ⟨b,y+i,none⟩=some (.int .u8 (v:Nat))/\v<=255/\J6 w A i=(v:Nat):=by intro i hi;obtain⟨b,y,rfl,hb,hc⟩:=h3 kR;obtain⟨v0,y0,n0,c0,t0⟩:=hc i hi;obtain⟨x0,e0,_,w0⟩:=DataW.trod_int underlying5 t0;simp only[List.cons.injEq,and_true]at e0;subst e0;have J:=bounds_u8 w0;obtain⟨m,rfl⟩:=JV J.1;exact⟨b,y,m,rfl,hb,c0,kR,Ze c0⟩
 refine⟨(List.range len).map fun i=>(J6 w A i).toNat,mY,?_,?_,by unfold maxLen at h2;omega,G⟩
 ·intro t ht;obtain⟨i,hi,rfl⟩:=ET.1 ht;obtain⟨b,y,v,_,_,_,hv,e⟩:=z i (ES.1 hi);rw[e];omega
 ·intro hn;obtain⟨b,y,v,rfl,hb,_⟩:=z 0 hn;refine⟨b,y,rfl,hb,fun i j hi hj=> ?_⟩;obtain rfl:j=0:=by omega
  obtain⟨b',L,v',e1,_,hc,_,e2⟩:=z i hi;injection e1 with e1;injection e1 with e1 e3;subst e1 e3;have e:jZ .u8 ((List.range len).map fun i=>(J6 w (some ⟨b,y,none⟩) i).toNat) i 0= .int .u8 (v':Nat):=by unfold jZ;rw[Ar,B0,List.getElem?_range hi];simp[e2]
  rw[e,EF,CT];exact hc
end Open
end Go.Proofs.YtfgdoknipbpfhaaGreatDoor
