/- How an argument that -/
import Derived.Test.YtfgdoknipbpfhaaGreatDoorZBodyIndex41
import Derived.Test.YtfgdoknipbpfhaaGreatDoorZBodyIndex19
import Derived.OpenShut
import Derived.Deep.Slices
import Derived.Deep.Fields
import Derived.ChangeSame
namespace Go.Proofs.YtfgdoknipbpfhaaGreatDoor
variable{w:World}{b i k:Nat}{A:Option Addr}{l:List Nat}
namespace Open
open Go.ChangeShapes Go.WideShapes Go.RowKit Go.Deep Mem
def IS(w:World)(A:Option Addr)(k:Nat):Int:=
 match A with
 |some a=>(match w.cell? ⟨a.block,a.off+k,none⟩with|some (.int _ n)=>n|_=>0)
 |none=>0
def IQ(w:World)(A:Option Addr)(k:Nat):ByteArray:=
 match A with
 |some a=>(match w.cell? ⟨a.block,a.off+k,none⟩with|some (.string s)=>s|_=>ByteArray.empty)
 |none=>ByteArray.empty
theorem Nt{kd:IntKind}{n:Int}(h:w.cell? ⟨b,i+k,none⟩=some (.int kd n)):IS w (some ⟨b,i,none⟩) k=n:=by simp[IS,h]
theorem Qs{s:ByteArray}(h:w.cell? ⟨b,i+k,none⟩=some (.string s)):IQ w (some ⟨b,i,none⟩) k=s:=by simp[IQ,h]
section
variable {H:Type} {enc:TypeId×Value->H} {P:Program} {w:World} {base:Nat} {spare:Nat->Bool} {held:Bool}
theorem add_none(b h i:Nat):(⟨b,h,none⟩:Addr).add i=⟨b,h+i,none⟩:=by
 unfold Addr.add;split
 ·simp_all
 ·rfl
theorem Wh{t e:TypeId}{fs:Array Field}{fuel:Nat}{len M:Nat}{x:DataW H×List MemPlace}(ht:P.underlying t=some (.slice e))
 (he:P.underlying e=some (.struct fs))(N:oneCellFields P fs=true)(hC:P.cellsOf e=fs.size)(Q:0<fs.size)(s:Nat)(hs:fs.size=s)
 (h:DataW.trod enc P w base spare held fuel t [.slice A len M]=some x):
 len<=M/\M<=maxLen/\
 (0<len->∃b E,A=some ⟨b,E,none⟩/\b<w.heap.size/\∀i,i<len->∀ (j:Nat) (f:Field),fs[j]? =some f->
   ∃ (v:Value) (y:DataW H×List MemPlace) (n:Nat),w.cell? ⟨b,E+(i*s+j),none⟩=some v/\DataW.trod enc P w base spare held n f.type [v]=some y):=by
 subst hs;rcases open_slice ht h with ⟨h0,_⟩|⟨a,aj,ai,m,n,D,Pl,Y,hb,hl,hm,ag,hx,hi⟩
 ·simp at h0;obtain⟨rfl,rfl,rfl⟩:=h0;exact⟨Am _,Da _,fun h=>absurd h nB⟩
 ·simp at Y;obtain⟨rfl,rfl,rfl⟩:=Y;refine⟨hl,hm,fun hn=> ?_⟩;have ae:len<=m:=by rw[ag];split<;>omega
  have cellAt:∀i,i<len->∀ (j:Nat) (f:Field),fs[j]? =some f->∃ (v:Value) (y:DataW H×List MemPlace) (n:Nat),w.cell? (a.add (i*fs.size+j))=some v/\DataW.trod enc P w base spare held n f.type [v]=some y:=by intro i aa j f hj;obtain⟨J,hc,ac⟩:=hi i nB;rw[hC]at hc;obtain⟨ys,n',_,_,_,al,hf⟩:=DataW.trod_struct he ac;obtain⟨_,ak,ab⟩:=World.cells?_some hc;obtain⟨ho,hk⟩:=hone_of N j f hj;have ah:j<fs.size:=(Array.getElem?_eq_some_iff.1 hj).1;have G:=ab j ah;have h1:=hf j f hj;have h2:(J.drop j).take 1= [J[j]' nB]:=(by rw[Dx nB];rfl);rw[ho,hk,h2]at h1;have af:ys[j]? =some (ys[j]' nB):=AD nB;refine⟨J[j]' nB,ys[j]' nB,n',?_,h1.trans af⟩;rw[<-add_add,G];exact AD nB
  obtain⟨b,E,U⟩:=a;obtain⟨v0,_,_,Z,_⟩:=cellAt 0 hn 0 fs[0] (LN Q);have L:U=none:=by have:=World.cell?_spot Z;simpa[Addr.add]using this
  subst L;refine⟨b,E,rfl,?_,?_⟩
  ·have:=World.block_lt_of_cell? _ _ Z;rw[add_none]at this;exact this
  ·intro i aa j f hj;obtain⟨v,y,n,h1,h2⟩:=cellAt i aa j f hj;rw[add_none]at h1;exact⟨v,y,n,h1,h2⟩
end
end Open
namespace Open
open Go.ChangeShapes Go.WideShapes Go.RowKit Go.Deep Mem Canon
def intF(k:IntKind)(l:List Int):Nat->Nat->Value:=fun i _=> .int k (l.getD i 0)
end Open
namespace Lz
open Go.RowKit Mem Own Canon
open Toks (Tk Bd SG)
end Lz
namespace Block
open Go.RowKit Mem Own Canon
open Nums Crc
open Huff (Cy Dp Lv)
open Toks (Tk Bd)
end Block
namespace Block
open Go.RowKit Mem Own Canon
open Nums Crc NumPut
open Huff (Cy)
open Toks (Tk)
theorem RN{n:Nat}{ls:List Nat}(h:Row w w A n 1 (kZ .u8 ls))(h0:0<n):∀a,A=some a->a.add 0=a/\a.block<w.heap.size:=by intro a ha;obtain⟨b,i,rfl,hb,_⟩:=h h0;injection ha with ha;subst ha;exact⟨by rw[Mem.add_none,Cw],hb⟩
theorem mI(h:∀x∈l,x<=255)(i:Nat):l.getD i 0<=255:=by
 by_cases hi:i<l.length
 ·rw[Aq,AD hi];exact h _ (GI hi)
 ·rw[Aq,FO nB];show 0<=255;omega
theorem U9{y:Nat}(h:∀x∈l,x<=255)(hy:y<=255):∀x∈l++ [y],x<=255:=fun x hx=>by
 rcases Bx.1 hx with hx|hx
 ·exact h x hx
 ·rw[Em.1 hx];exact hy
theorem TY:∀ (n d:Nat) (out:List Nat),(∀x∈out,x<=255)->∀x∈Lz.Ec out n d,x<=255
 |0,_,_,h=>h
 |n+1,d,_,h=>TY n d _ (U9 h (mI h _))
theorem TK(most:Int):∀ (ts:List Tk) (out:List Nat),(∀t∈ts,0<=t.lit/\t.lit<=255)->(∀x∈out,x<=255)->∀x∈(Lz.Fu most out ts).1,x<=255
 | [],_,_,h=>h
 |t :: ts,_,hl,h=>by
  have h1:=hl t pR;rw[Lz.Fu];split
  ·refine TK most ts _ (fun x hx=>hl x (Cm _ hx)) ?_;split
   ·exact U9 h nB
   ·exact TY _ _ _ h
  ·intro x hx;cases hx
theorem R9{bs:List Nat}(h8:∀x∈bs,x<=255):∀x∈opO bs,x<=255:=by
 intro x hx;unfold opO at hx;split at hx
 ·cases hx
 ·rename_i h0;unfold byO at hx;split at hx
  ·cases hx
  ·rename_i h1;have h1:byE (Eo bs) (hN bs) (hP bs) (Di bs)=0:=(by simpa using h1);split at hx
   ·unfold Di at hx;exact h8 x (Sh hx)
   ·rename_i hw
    have hr:(Cy (Di bs) (hN bs)).2=0:=by
     unfold byE at h1;rw[Ae hw]at h1;split at h1
     ·contradiction
     ·rename_i h2;simpa using h2
    unfold Lz.FQ at hx;rw[Ae nB]at hx;exact TK _ _ _ (fun t ht=>(UC hr t ht).1) pR x hx
end Block
end Go.Proofs.YtfgdoknipbpfhaaGreatDoor
