/- How an argument that -/
import Derived.Test.YtfgdoknipbpfhaaGreatDoorZBodyBack39
import Derived.Test.YtfgdoknipbpfhaaGreatDoorZBodyBack21
import Derived.OpenShut
import Derived.Deep.Slices
import Derived.Deep.Fields
import Derived.ChangeSame
namespace Go.Proofs.YtfgdoknipbpfhaaGreatDoor
open Go.Lib (hid)
variable{w:World}{b i k n:Nat}{A:Option Addr}{l:List Nat}
namespace Open
open Go.ChangeShapes Go.WideShapes Go.RowKit Go.Deep Mem
def I4(w:World)(A:Option Addr)(k:Nat):Int:=
 match A with
 |some a=>(match w.cell? ⟨a.block,a.off+k,none⟩with|some (.int _ n)=>n|_=>0)
 |none=>0
def I1(w:World)(A:Option Addr)(k:Nat):ByteArray:=
 match A with
 |some a=>(match w.cell? ⟨a.block,a.off+k,none⟩with|some (.string s)=>s|_=>ByteArray.empty)
 |none=>ByteArray.empty
theorem ND{kd:IntKind}{n:Int}(h:w.cell? ⟨b,i+k,none⟩=some (.int kd n)):I4 w (some ⟨b,i,none⟩) k=n:=by simp[I4,h]
theorem Sz{s:ByteArray}(h:w.cell? ⟨b,i+k,none⟩=some (.string s)):I1 w (some ⟨b,i,none⟩) k=s:=by simp[I1,h]
section
variable {H:Type} {enc:TypeId×Value->H} {P:Program} {w:World} {base:Nat} {spare:Nat->Bool} {held:Bool}
theorem add_none(b h i:Nat):(⟨b,h,none⟩:Addr).add i=⟨b,h+i,none⟩:=by
 unfold Addr.add;split
 ·simp_all
 ·rfl
theorem bK{t e:TypeId}{fs:Array Field}{fuel:Nat}{len E:Nat}{x:DataW H×List MemPlace}(ht:P.underlying t=some (.slice e))
 (he:P.underlying e=some (.struct fs))(Z:oneCellFields P fs=true)(hC:P.cellsOf e=fs.size)(Q:0<fs.size)(s:Nat)(hs:fs.size=s)
 (h:DataW.trod enc P w base spare held fuel t [.slice A len E]=some x):
 len<=E/\E<=maxLen/\
 (0<len->∃b z,A=some ⟨b,z,none⟩/\b<w.heap.size/\∀i,i<len->∀ (j:Nat) (f:Field),fs[j]? =some f->
   ∃ (v:Value) (y:DataW H×List MemPlace) (n:Nat),w.cell? ⟨b,z+(i*s+j),none⟩=some v/\DataW.trod enc P w base spare held n f.type [v]=some y):=by
 subst hs;rcases open_slice ht h with ⟨h0,_⟩|⟨a,ai,ah,m,n,D,Pl,Y,hb,hl,hm,aa,hx,hi⟩
 ·simp at h0;obtain⟨rfl,rfl,rfl⟩:=h0;exact⟨Ak _,CA _,fun h=>absurd h nj⟩
 ·simp at Y;obtain⟨rfl,rfl,rfl⟩:=Y;refine⟨hl,hm,fun hn=> ?_⟩;have ac:len<=m:=by rw[aa];split<;>omega
  have cellAt:∀i,i<len->∀ (j:Nat) (f:Field),fs[j]? =some f->∃ (v:Value) (y:DataW H×List MemPlace) (n:Nat),w.cell? (a.add (i*fs.size+j))=some v/\DataW.trod enc P w base spare held n f.type [v]=some y:=by intro i N j f hj;obtain⟨L,hc,ab⟩:=hi i nj;rw[hC]at hc;obtain⟨ys,n',_,_,_,aj,hf⟩:=DataW.trod_struct he ab;obtain⟨_,ak,af⟩:=World.cells?_some hc;obtain⟨ho,hk⟩:=hone_of Z j f hj;have ae:j<fs.size:=(Array.getElem?_eq_some_iff.1 hj).1;have G:=af j ae;have h1:=hf j f hj;have h2:(L.drop j).take 1= [L[j]' nj]:=(by rw[Dg nj];rfl);rw[ho,hk,h2]at h1;have ag:ys[j]? =some (ys[j]' nj):=Aw nj;refine⟨L[j]' nj,ys[j]' nj,n',?_,h1.trans ag⟩;rw[<-add_add,G];exact Aw nj
  obtain⟨b,z,U⟩:=a;obtain⟨v0,_,_,M,_⟩:=cellAt 0 hn 0 fs[0] (KF Q);have J:U=none:=by have:=World.cell?_spot M;simpa[Addr.add]using this
  subst J;refine⟨b,z,rfl,?_,?_⟩
  ·have:=World.block_lt_of_cell? _ _ M;rw[add_none]at this;exact this
  ·intro i N j f hj;obtain⟨v,y,n,h1,h2⟩:=cellAt i N j f hj;rw[add_none]at h1;exact⟨v,y,n,h1,h2⟩
end
end Open
namespace Open
open Go.ChangeShapes Go.WideShapes Go.RowKit Go.Deep Mem Canon
def Ij(k:IntKind)(l:List Int):Nat->Nat->Value:=fun i _=> .int k (l.getD i 0)
end Open
namespace Huff
open Go.RowKit Mem Canon Own
end Huff
namespace Huff
open Go.RowKit Mem Canon Own
end Huff
namespace Huff
open Go.RowKit Mem Canon Own Go.Proofs.YtfgdoknipbpfhaaGreatDoor.Open
theorem Uv{B:Nat}{k:IntKind}{ls:List Int}(h:Row w B A n 1 (Ij k ls))(hn:ls.length=n)(hi:i<n):
 ∃b j,A=some ⟨b,j,none⟩/\w.cell? ⟨b,j+i,none⟩=some (.int k (ls.getD i 0)):=by
 obtain⟨b,j,e,hb,hc⟩:=h nj;have h1:=hc i 0 hi nj;rw[CO,Bi]at h1;exact⟨b,j,e,h1⟩
set_option maxRecDepth 100000 in
theorem Pe(w:World)(A B:Option Addr)(n c d BA BB:Nat)(l:List Int)(hn:l.length=n)(hN:n<=9223372036854775807)(ha:Row w BA A n 1 (Ij .i64 l))(hb:Row w BB B n 1 (Ij .i64 l)):
 Calls Tryz.prog 35 #[.slice A n c, .slice B n d] w fun e w'=>e= .returned (.bool true)/\∃q,w'=w.drewN q:=by
 have HN:=hid hn;clear hn;go_enter Tryz.func35,Tryz.ntmps35;go_wp2_with fail;go_loopw [5] (fun i wr=>∃k:Nat,k<=n/\i= .int .i64 k/\Hid (∃q,wr=w.drewN q)) (fun i _=>n-(intOf i).toNat)
 case atStart=>exact⟨0,nj,rfl,⟨0,rfl⟩⟩
 case round=>
  obtain⟨k,hk,rfl,h⟩:=hrel;by_cases E:k<n
  ·have z:Row wr BA A n 1 (Ij .i64 l):=(by obtain⟨q,hq⟩:=h.out;rw[hq];exact ha);have j:Row wr BB B n 1 (Ij .i64 l):=(by obtain⟨q,hq⟩:=h.out;rw[hq];exact hb);obtain⟨b,J,rfl,d0⟩:=Uv z HN.out E;obtain⟨b',G,rfl,d1⟩:=Uv j HN.out E;generalize l.getD k 0=y at *;have x0:(0:Int)<=(k:Int):=nj;have x1:(k:Int)<(n:Int):=nj;clear z j;go_wp2_with fail;go_quiet (fail);go_wp2_with fail;go_roundw
   case measure=>exact jq
   case rel=>go_light;refine⟨k+1,nj,jr,?_⟩;obtain⟨q,rfl⟩:=h.out;exact⟨_,Fq _ _ _⟩
  ·obtain rfl:k=n:=by omega
   go_wp2_with fail;go_ret;exact⟨rfl,h.out⟩
end Huff
namespace Huff
open Go.RowKit Mem Canon Own
end Huff
namespace Huff
open Go.RowKit Mem Canon Own
open Toks (Tk Pc Du Et pw Bb)
end Huff
namespace Lz
open Go.RowKit Mem Own Canon
open Toks (Tk Bb)
end Lz
namespace Block
open Go.RowKit Mem Own Canon
open Nums Crc
open Huff (Cs Dv Ld)
open Toks (Tk Bb)
end Block
namespace Block
open Go.RowKit Mem Own Canon
open Nums Crc NumPut
open Huff (Cs)
open Toks (Tk)
theorem T5{ls:List Nat}(h:Row w w A n 1 (jZ .u8 ls))(h0:0<n):∀a,A=some a->a.add 0=a/\a.block<w.heap.size:=by intro a ha;obtain⟨b,i,rfl,hb,_⟩:=h h0;injection ha with ha;subst ha;exact⟨by rw[Mem.add_none,Bi],hb⟩
theorem aR(h:∀x∈l,x<=255)(i:Nat):l.getD i 0<=255:=by
 by_cases hi:i<l.length
 ·rw[Am,Aw hi];exact h _ (FC hi)
 ·rw[Am,Fk nj];show 0<=255;omega
theorem Uy{y:Nat}(h:∀x∈l,x<=255)(hy:y<=255):∀x∈l++ [y],x<=255:=fun x hx=>by
 rcases BQ.1 hx with hx|hx
 ·exact h x hx
 ·rw[Ex.1 hx];exact hy
theorem VL:∀ (n d:Nat) (out:List Nat),(∀x∈out,x<=255)->∀x∈Lz.Dk out n d,x<=255
 |0,_,_,h=>h
 |n+1,d,_,h=>VL n d _ (Uy h (aR h _))
theorem Vz(most:Int):∀ (ts:List Tk) (out:List Nat),(∀t∈ts,0<=t.lit/\t.lit<=255)->(∀x∈out,x<=255)->∀x∈(Lz.Fi most out ts).1,x<=255
 | [],_,_,h=>h
 |t :: ts,_,hl,h=>by
  have h1:=hl t qT;rw[Lz.Fi];split
  ·refine Vz most ts _ (fun x hx=>hl x (Ce _ hx)) ?_;split
   ·exact Uy h nj
   ·exact VL _ _ _ h
  ·intro x hx;cases hx
theorem Ui{bs:List Nat}(h8:∀x∈bs,x<=255):∀x∈opO bs,x<=255:=by
 intro x hx;unfold opO at hx;split at hx
 ·cases hx
 ·rename_i h0;unfold byO at hx;split at hx
  ·cases hx
  ·rename_i h1;have h1:byE (Eb bs) (hN bs) (hP bs) (CU bs)=0:=(by simpa using h1);split at hx
   ·unfold CU at hx;exact h8 x (Uq hx)
   ·rename_i hw
    have hr:(Cs (CU bs) (hN bs)).2=0:=by
     unfold byE at h1;rw[Aa hw]at h1;split at h1
     ·contradiction
     ·rename_i h2;simpa using h2
    unfold Lz.FJ at hx;rw[Aa nj]at hx;exact Vz _ _ _ (fun t ht=>(Wj hr t ht).1) qT x hx
end Block
end Go.Proofs.YtfgdoknipbpfhaaGreatDoor
