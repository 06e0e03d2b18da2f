/- How an argument that -/
import Derived.Test.YtfgdoknipbpfhaaGreatDoorZBodyBlocks37
import Derived.Test.YtfgdoknipbpfhaaGreatDoorZBodyBlocks21
import Derived.OpenShut
import Derived.Deep.Slices
import Derived.Deep.Fields
import Derived.ChangeSame
namespace Go.Proofs.YtfgdoknipbpfhaaGreatDoor
variable{w:World}{b i k:Nat}{A:Option Addr}{l:List Nat}
namespace Open
open Go.ChangeShapes Go.WideShapes Go.RowKit Go.Deep Mem
def Iy(w:World)(A:Option Addr)(k:Nat):Int:=
 match A with
 |some a=>(match w.cell? ⟨a.block,a.off+k,none⟩with|some (.int _ n)=>n|_=>0)
 |none=>0
def Ix(w:World)(A:Option Addr)(k:Nat):ByteArray:=
 match A with
 |some a=>(match w.cell? ⟨a.block,a.off+k,none⟩with|some (.string s)=>s|_=>ByteArray.empty)
 |none=>ByteArray.empty
theorem MR{kd:IntKind}{n:Int}(h:w.cell? ⟨b,i+k,none⟩=some (.int kd n)):Iy w (some ⟨b,i,none⟩) k=n:=by simp[Iy,h]
theorem TO{s:ByteArray}(h:w.cell? ⟨b,i+k,none⟩=some (.string s)):Ix w (some ⟨b,i,none⟩) k=s:=by simp[Ix,h]
section
variable {H:Type} {enc:TypeId×Value->H} {P:Program} {w:World} {base:Nat} {spare:Nat->Bool} {held:Bool}
theorem add_none(b h i:Nat):(⟨b,h,none⟩:Addr).add i=⟨b,h+i,none⟩:=by
 unfold Addr.add;split
 ·simp_all
 ·rfl
theorem mF{t e:TypeId}{fs:Array Field}{fuel:Nat}{len L:Nat}{x:DataW H×List MemPlace}(ht:P.underlying t=some (.slice e))
 (he:P.underlying e=some (.struct fs))(Y:oneCellFields P fs=true)(hC:P.cellsOf e=fs.size)(Q:0<fs.size)(s:Nat)(hs:fs.size=s)
 (h:DataW.trod enc P w base spare held fuel t [.slice A len L]=some x):
 len<=L/\L<=maxLen/\
 (0<len->∃b z,A=some ⟨b,z,none⟩/\b<w.heap.size/\∀i,i<len->∀ (j:Nat) (f:Field),fs[j]? =some f->
   ∃ (v:Value) (y:DataW H×List MemPlace) (n:Nat),w.cell? ⟨b,z+(i*s+j),none⟩=some v/\DataW.trod enc P w base spare held n f.type [v]=some y):=by
 subst hs;rcases open_slice ht h with ⟨h0,_⟩|⟨a,ah,ai,m,n,D,Pl,N,hb,hl,hm,ae,hx,hi⟩
 ·simp at h0;obtain⟨rfl,rfl,rfl⟩:=h0;exact⟨Ak _,Cr _,fun h=>absurd h mw⟩
 ·simp at N;obtain⟨rfl,rfl,rfl⟩:=N;refine⟨hl,hm,fun hn=> ?_⟩;have ac:len<=m:=by rw[ae];split<;>omega
  have cellAt:∀i,i<len->∀ (j:Nat) (f:Field),fs[j]? =some f->∃ (v:Value) (y:DataW H×List MemPlace) (n:Nat),w.cell? (a.add (i*fs.size+j))=some v/\DataW.trod enc P w base spare held n f.type [v]=some y:=by intro i U j f hj;obtain⟨G,hc,ab⟩:=hi i mw;rw[hC]at hc;obtain⟨ys,n',_,_,_,ak,hf⟩:=DataW.trod_struct he ab;obtain⟨_,aj,af⟩:=World.cells?_some hc;obtain⟨ho,hk⟩:=hone_of Y j f hj;have ag:j<fs.size:=(Array.getElem?_eq_some_iff.1 hj).1;have E:=af j ag;have h1:=hf j f hj;have h2:(G.drop j).take 1= [G[j]' mw]:=(by rw[Dj mw];rfl);rw[ho,hk,h2]at h1;have aa:ys[j]? =some (ys[j]' mw):=Az mw;refine⟨G[j]' mw,ys[j]' mw,n',?_,h1.trans aa⟩;rw[<-add_add,E];exact Az mw
  obtain⟨b,z,Z⟩:=a;obtain⟨v0,_,_,M,_⟩:=cellAt 0 hn 0 fs[0] (J7 Q);have J:Z=none:=by have:=World.cell?_spot M;simpa[Addr.add]using this
  subst J;refine⟨b,z,rfl,?_,?_⟩
  ·have:=World.block_lt_of_cell? _ _ M;rw[add_none]at this;exact this
  ·intro i U j f hj;obtain⟨v,y,n,h1,h2⟩:=cellAt i U j f hj;rw[add_none]at h1;exact⟨v,y,n,h1,h2⟩
end
end Open
namespace Open
open Go.ChangeShapes Go.WideShapes Go.RowKit Go.Deep Mem Canon
def intF(k:IntKind)(l:List Int):Nat->Nat->Value:=fun i _=> .int k (l.getD i 0)
end Open
namespace Lz
open Go.RowKit Mem Own Canon
open Toks (Tk AW)
end Lz
namespace Block
open Go.RowKit Mem Own Canon
open Nums Crc
open Huff (Cg Do KW)
open Toks (Tk AW)
end Block
namespace Block
open Go.RowKit Mem Own Canon
open Nums Crc NumPut
open Huff (Cg)
open Toks (Tk)
theorem Qd{n:Nat}{ls:List Nat}(h:Row w w A n 1 (jZ .u8 ls))(h0:0<n):∀a,A=some a->a.add 0=a/\a.block<w.heap.size:=by intro a ha;obtain⟨b,i,rfl,hb,_⟩:=h h0;injection ha with ha;subst ha;exact⟨by rw[Mem.add_none,Bf],hb⟩
theorem lN(h:∀x∈l,x<=255)(i:Nat):l.getD i 0<=255:=by
 by_cases hi:i<l.length
 ·rw[Am,Az hi];exact h _ (Fe hi)
 ·rw[Am,Ff mw];show 0<=255;omega
theorem U0{y:Nat}(h:∀x∈l,x<=255)(hy:y<=255):∀x∈l++ [y],x<=255:=fun x hx=>by
 rcases BF.1 hx with hx|hx
 ·exact h x hx
 ·rw[Ei.1 hx];exact hy
theorem UP:∀ (n d:Nat) (out:List Nat),(∀x∈out,x<=255)->∀x∈Lz.Db out n d,x<=255
 |0,_,_,h=>h
 |n+1,d,_,h=>UP n d _ (U0 h (lN h _))
theorem UC(most:Int):∀ (ts:List Tk) (out:List Nat),(∀t∈ts,0<=t.lit/\t.lit<=255)->(∀x∈out,x<=255)->∀x∈(Lz.EG most out ts).1,x<=255
 | [],_,_,h=>h
 |t :: ts,_,hl,h=>by
  have h1:=hl t oK;rw[Lz.EG];split
  ·refine UC most ts _ (fun x hx=>hl x (BR _ hx)) ?_;split
   ·exact U0 h mw
   ·exact UP _ _ _ h
  ·intro x hx;cases hx
theorem QL{bs:List Nat}(h8:∀x∈bs,x<=255):∀x∈opO bs,x<=255:=by
 intro x hx;unfold opO at hx;split at hx
 ·cases hx
 ·rename_i h0;unfold byO at hx;split at hx
  ·cases hx
  ·rename_i h1;have h1:byE (Dr bs) (hN bs) (hP bs) (CI bs)=0:=(by simpa using h1);split at hx
   ·unfold CI at hx;exact h8 x (Qv hx)
   ·rename_i hw
    have hr:(Cg (CI bs) (hN bs)).2=0:=by
     unfold byE at h1;rw[Aa hw]at h1;split at h1
     ·contradiction
     ·rename_i h2;simpa using h2
    unfold Lz.Fm at hx;rw[Aa mw]at hx;exact UC _ _ _ (fun t ht=>(Vn hr t ht).1) oK x hx
end Block
end Go.Proofs.YtfgdoknipbpfhaaGreatDoor
