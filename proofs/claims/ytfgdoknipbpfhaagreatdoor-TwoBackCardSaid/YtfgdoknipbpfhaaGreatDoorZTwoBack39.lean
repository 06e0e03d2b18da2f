/- How an argument that -/
import Derived.Test.YtfgdoknipbpfhaaGreatDoorZTwoBack38
import Derived.OpenShut
import Derived.Deep.Slices
import Derived.Deep.Fields
import Derived.ChangeSame
namespace Go.Proofs.YtfgdoknipbpfhaaGreatDoor
variable{w:World}{b i k:Nat}{A:Option Addr}{l:List Nat}
open Go.ChangeShapes Go.WideShapes Go.RowKit Go.Deep
def Ju(w:World)(A:Option Addr)(k:Nat):Int:=
 match A with
 |some a=>(match w.cell? ⟨a.block,a.off+k,none⟩with|some (.int _ n)=>n|_=>0)
 |none=>0
def Jr(w:World)(A:Option Addr)(k:Nat):ByteArray:=
 match A with
 |some a=>(match w.cell? ⟨a.block,a.off+k,none⟩with|some (.string s)=>s|_=>ByteArray.empty)
 |none=>ByteArray.empty
theorem Mp{kd:IntKind}{n:Int}(h:w.cell? ⟨b,i+k,none⟩=some (.int kd n)):Ju w (some ⟨b,i,none⟩) k=n:=by simp[Ju,h]
theorem Vb{s:ByteArray}(h:w.cell? ⟨b,i+k,none⟩=some (.string s)):Jr w (some ⟨b,i,none⟩) k=s:=by simp[Jr,h]
section
variable {H:Type} {enc:TypeId×Value->H} {P:Program} {w:World} {base:Nat} {spare:Nat->Bool} {held:Bool}
theorem Af7(b h i:Nat):(⟨b,h,none⟩:Addr).add i=⟨b,h+i,none⟩:=by
 unfold Addr.add;split
 ·simp_all
 ·rfl
theorem Xm{t e:TypeId}{fs:Array Field}{fuel:Nat}{len G:Nat}{x:DataW H×List MemPlace}(ht:P.underlying t=some (.slice e))
 (he:P.underlying e=some (.struct fs))(Z:oneCellFields P fs=true)(hC:P.cellsOf e=fs.size)(M:0<fs.size)(s:Nat)(hs:fs.size=s)
 (h:DataW.trod enc P w base spare held fuel t [.slice A len G]=some x):
 len<=G/\G<=maxLen/\
 (0<len->∃b z,A=some ⟨b,z,none⟩/\b<w.heap.size/\∀i,i<len->∀ (j:Nat) (f:Field),fs[j]? =some f->
   ∃ (v:Value) (y:DataW H×List MemPlace) (n:Nat),w.cell? ⟨b,z+(i*s+j),none⟩=some v/\DataW.trod enc P w base spare held n f.type [v]=some y):=by
 subst hs;rcases open_slice ht h with ⟨h0,_⟩|⟨a,ah,ai,m,n,D,Pl,Q,hb,hl,hm,aa,hx,hi⟩
 ·simp at h0;obtain⟨rfl,rfl,rfl⟩:=h0;exact⟨Ak _,Bf _,fun h=>absurd h nj⟩
 ·simp at Q;obtain⟨rfl,rfl,rfl⟩:=Q;refine⟨hl,hm,fun hn=> ?_⟩;have ae:len<=m:=by rw[aa];split<;>omega
  have cellAt:∀i,i<len->∀ (j:Nat) (f:Field),fs[j]? =some f->∃ (v:Value) (y:DataW H×List MemPlace) (n:Nat),w.cell? (a.add (i*fs.size+j))=some v/\DataW.trod enc P w base spare held n f.type [v]=some y:=by intro i Y j f hj;obtain⟨J,hc,ag⟩:=hi i nj;rw[hC]at hc;obtain⟨ys,n',_,_,_,ak,hf⟩:=DataW.trod_struct he ag;obtain⟨_,aj,ac⟩:=World.cells?_some hc;obtain⟨ho,hk⟩:=hone_of Z j f hj;have ab:j<fs.size:=(Array.getElem?_eq_some_iff.1 hj).1;have L:=ac j ab;have h1:=hf j f hj;have h2:(J.drop j).take 1= [J[j]' nj]:=(by rw[Dl nj];rfl);rw[ho,hk,h2]at h1;have af:ys[j]? =some (ys[j]' nj):=Az nj;refine⟨J[j]' nj,ys[j]' nj,n',?_,h1.trans af⟩;rw[<-add_add,L];exact Az nj
  obtain⟨b,z,N⟩:=a;obtain⟨v0,_,_,U,_⟩:=cellAt 0 hn 0 fs[0] (KM M);have E:N=none:=by have:=World.cell?_spot U;simpa[Addr.add]using this
  subst E;refine⟨b,z,rfl,?_,?_⟩
  ·have:=World.block_lt_of_cell? _ _ U;rw[Af7]at this;exact this
  ·intro i Y j f hj;obtain⟨v,y,n,h1,h2⟩:=cellAt i Y j f hj;rw[Af7]at h1;exact⟨v,y,n,h1,h2⟩
end
def intF(k:IntKind)(l:List Int):Nat->Nat->Value:=fun i _=> .int k (l.getD i 0)
theorem VV{n:Nat}{ls:List Nat}(h:Row w w A n 1 (jZ .u8 ls))(h0:0<n):∀a,A=some a->a.add 0=a/\a.block<w.heap.size:=by intro a ha;obtain⟨b,i,rfl,hb,_⟩:=h h0;injection ha with ha;subst ha;exact⟨by rw[Af6,Bt],hb⟩
theorem qX(h:∀x∈l,x<=255)(i:Nat):l.getD i 0<=255:=by
 by_cases hi:i<l.length
 ·rw[Aq,Az hi];exact h _ (FM hi)
 ·rw[Aq,FN nj];show 0<=255;omega
theorem Wt{y:Nat}(h:∀x∈l,x<=255)(hy:y<=255):∀x∈l++ [y],x<=255:=fun x hx=>by
 rcases BJ.1 hx with hx|hx
 ·exact h x hx
 ·rw[Eo.1 hx];exact hy
theorem Rn:∀ (n d:Nat) (out:List Nat),(∀x∈out,x<=255)->∀x∈Ee out n d,x<=255
 |0,_,_,h=>h
 |n+1,d,_,h=>Rn n d _ (Wt h (qX h _))
theorem Rg(most:Int):∀ (ts:List Tk) (out:List Nat),(∀t∈ts,0<=t.lit/\t.lit<=255)->(∀x∈out,x<=255)->∀x∈(Fo most out ts).1,x<=255
 | [],_,_,h=>h
 |t :: ts,_,hl,h=>by
  have h1:=hl t rX;rw[Fo];split
  ·refine Rg most ts _ (fun x hx=>hl x (Cn _ hx)) ?_;split
   ·exact Wt h nj
   ·exact Rn _ _ _ h
  ·intro x hx;cases hx
theorem UM{bs:List Nat}(h8:∀x∈bs,x<=255):∀x∈opO bs,x<=255:=by
 intro x hx;unfold opO at hx;split at hx
 ·cases hx
 ·rename_i h0;unfold byO at hx;split at hx
  ·cases hx
  ·rename_i h1;have h1:byE (Di bs) (Aj0 bs) (Ai2 bs) (CR bs)=0:=(by simpa using h1);split at hx
   ·unfold CR at hx;exact h8 x (Wl hx)
   ·rename_i hw
    have hr:(CE (CR bs) (Aj0 bs)).2=0:=by
     unfold byE at h1;rw[Aa hw]at h1;split at h1
     ·contradiction
     ·rename_i h2;simpa using h2
    unfold Gg at hx;rw[Aa nj]at hx;exact Rg _ _ _ (fun t ht=>(SC hr t ht).1) rX x hx
end Go.Proofs.YtfgdoknipbpfhaaGreatDoor
