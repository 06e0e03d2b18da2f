/- How an argument that -/
import Derived.Test.YtfgdoknipbpfhaaGreatDoorZBodyOpened37
import Derived.Test.YtfgdoknipbpfhaaGreatDoorZBodyOpened21
import Derived.OpenShut
import Derived.Deep.Slices
import Derived.Deep.Fields
import Derived.ChangeSame
namespace Go.Proofs.YtfgdoknipbpfhaaGreatDoor
open Go.Proofs.Tryz
open Go.Lib (hid)
variable{w:World}{E b base fuel i k n:Nat}{e t:TypeId}{A:Option Addr}{held:Bool}{l:List Nat}
namespace Open
open Go.ChangeShapes Go.WideShapes Go.RowKit Go.Deep Mem
def GZ(w:World)(A:Option Addr)(k:Nat):Int:=
 match A with
 |some a=>(match w.cell? ⟨a.block,a.off+k,none⟩with|some (.int _ n)=>n|_=>0)
 |none=>0
def IB(w:World)(A:Option Addr)(k:Nat):ByteArray:=
 match A with
 |some a=>(match w.cell? ⟨a.block,a.off+k,none⟩with|some (.string s)=>s|_=>ByteArray.empty)
 |none=>ByteArray.empty
theorem KN{kd:IntKind}{n:Int}(h:w.cell? ⟨b,i+k,none⟩=some (.int kd n)):GZ w (some ⟨b,i,none⟩) k=n:=by simp[GZ,h]
theorem St{s:ByteArray}(h:w.cell? ⟨b,i+k,none⟩=some (.string s)):IB w (some ⟨b,i,none⟩) k=s:=by simp[IB,h]
section
variable {H:Type} {enc:TypeId×Value->H} {P:Program} {w:World} {base:Nat} {spare:Nat->Bool} {held:Bool}
theorem add_none(b h i:Nat):(⟨b,h,none⟩:Addr).add i=⟨b,h+i,none⟩:=by
 unfold Addr.add;split
 ·simp_all
 ·rfl
theorem YA{fs:Array Field}{len G:Nat}{x:DataW H×List MemPlace}(ht:P.underlying t=some (.slice e))
 (he:P.underlying e=some (.struct fs))(Z:oneCellFields P fs=true)(hC:P.cellsOf e=fs.size)(Q:0<fs.size)(s:Nat)(hs:fs.size=s)
 (h:DataW.trod enc P w base spare held fuel t [.slice A len G]=some x):
 len<=G/\G<=maxLen/\
 (0<len->∃b z,A=some ⟨b,z,none⟩/\b<w.heap.size/\∀i,i<len->∀ (j:Nat) (f:Field),fs[j]? =some f->
   ∃ (v:Value) (y:DataW H×List MemPlace) (n:Nat),w.cell? ⟨b,z+(i*s+j),none⟩=some v/\DataW.trod enc P w base spare held n f.type [v]=some y):=by
 subst hs;rcases open_slice ht h with ⟨h0,_⟩|⟨a,ai,aj,m,n,D,Pl,Y,hb,hl,hm,af,hx,hi⟩
 ·simp at h0;obtain⟨rfl,rfl,rfl⟩:=h0;exact⟨Aq _,Cr _,fun h=>absurd h mz⟩
 ·simp at Y;obtain⟨rfl,rfl,rfl⟩:=Y;refine⟨hl,hm,fun hn=> ?_⟩;have ae:len<=m:=by rw[af];split<;>omega
  have cellAt:∀i,i<len->∀ (j:Nat) (f:Field),fs[j]? =some f->∃ (v:Value) (y:DataW H×List MemPlace) (n:Nat),w.cell? (a.add (i*fs.size+j))=some v/\DataW.trod enc P w base spare held n f.type [v]=some y:=by intro i N j f hj;obtain⟨E,hc,ah⟩:=hi i mz;rw[hC]at hc;obtain⟨ys,n',_,_,_,al,hf⟩:=DataW.trod_struct he ah;obtain⟨_,ak,ac⟩:=World.cells?_some hc;obtain⟨ho,hk⟩:=hone_of Z j f hj;have ag:j<fs.size:=(Array.getElem?_eq_some_iff.1 hj).1;have M:=ac j ag;have h1:=hf j f hj;have h2:(E.drop j).take 1= [E[j]' mz]:=(by rw[Df mz];rfl);rw[ho,hk,h2]at h1;have ab:ys[j]? =some (ys[j]' mz):=AD mz;refine⟨E[j]' mz,ys[j]' mz,n',?_,h1.trans ab⟩;rw[<-add_add,M];exact AD mz
  obtain⟨b,z,aa⟩:=a;obtain⟨v0,_,_,U,_⟩:=cellAt 0 hn 0 fs[0] (Ki Q);have J:aa=none:=by have:=World.cell?_spot U;simpa[Addr.add]using this
  subst J;refine⟨b,z,rfl,?_,?_⟩
  ·have:=World.block_lt_of_cell? _ _ U;rw[add_none]at this;exact this
  ·intro i N j f hj;obtain⟨v,y,n,h1,h2⟩:=cellAt i N j f hj;rw[add_none]at h1;exact⟨v,y,n,h1,h2⟩
theorem Yi{len:Nat}{x:DataW H×List MemPlace}(ht:P.underlying t=some (.slice e))(hC:P.cellsOf e=1)
 (h:DataW.trod enc P w base spare held fuel t [.slice A len E]=some x):
 len<=E/\E<=maxLen/\
 (0<len->∃b j,A=some ⟨b,j,none⟩/\b<w.heap.size/\∀i,i<len->
   ∃ (v:Value) (y:DataW H×List MemPlace) (n:Nat),w.cell? ⟨b,j+i,none⟩=some v/\DataW.trod enc P w base spare held n e [v]=some y):=by
 rcases open_slice ht h with ⟨h0,_⟩|⟨a,ae,ac,m,n,D,Pl,M,hb,hl,hm,Y,hx,hi⟩
 ·simp at h0;obtain⟨rfl,rfl,rfl⟩:=h0;exact⟨Aq _,Cr _,fun h=>absurd h mz⟩
 ·simp at M;obtain⟨rfl,rfl,rfl⟩:=M;refine⟨hl,hm,fun hn=> ?_⟩;have U:len<=m:=by rw[Y];split<;>omega
  have cellAt:∀i,i<len->∃ (v:Value) (y:DataW H×List MemPlace) (n:Nat),w.cell? (a.add i)=some v/\DataW.trod enc P w base spare held n e [v]=some y:=by
   intro i G;obtain⟨Q,hc,ab⟩:=hi i mz;rw[hC]at hc;obtain⟨_,Z,aa⟩:=World.cells?_some hc
   match Q,Z with
   | [v],_=>have:=aa 0 mz;rw[add_add]at this;exact⟨v,_,n,by simpa using this,ab⟩
  obtain⟨b,j,N⟩:=a;obtain⟨v0,_,_,J,_⟩:=cellAt 0 hn;have z:N=none:=by have:=World.cell?_spot J;simpa[Addr.add]using this
  subst z;refine⟨b,j,rfl,?_,?_⟩
  ·have:=World.block_lt_of_cell? _ _ J;rw[add_none]at this;exact this
  ·intro i G;obtain⟨v,y,n,h1,h2⟩:=cellAt i G;rw[add_none]at h1;exact⟨v,y,n,h1,h2⟩
end
end Open
namespace Open
open Go.ChangeShapes Go.WideShapes Go.RowKit Go.Deep Mem Canon
theorem iI{H:Type}{enc:TypeId×Value->H}{P:Program}{spare:Nat->Bool}{len:Nat}{x:DataW H×List MemPlace}(ht:P.underlying t=some (.slice e))
 (h:DataW.trod enc P w base spare held fuel t [.slice A len i]=some x):Wf A len i:=by
 rcases open_slice ht h with ⟨h0,_⟩|⟨a,y,z,m,n,D,Pl,j,hb,hl,hm,E,hx,hi⟩
 ·simp at h0;obtain⟨rfl,rfl,rfl⟩:=h0;exact Wf.nil
 ·simp at j;obtain⟨rfl,rfl,rfl⟩:=j;exact Wf.some hl
def Hq(k:IntKind)(l:List Int):Nat->Nat->Value:=fun i _=> .int k (l.getD i 0)
theorem YR{H:Type}{enc:TypeId×Value->H}{spare:Nat->Bool}{len:Nat}{x:DataW H×List MemPlace}
 (h:DataW.trod enc prog w base spare held fuel 28 [.slice A len E]=some x):
 ∃ls:List Nat,ls.length=len/\(∀x∈ls,x<=255)/\Row w w A len 1 (jZ .u8 ls)/\len<=9223372036854775807/\Wf A len E:=by
 have J:=iI underlying28 h;obtain⟨h1,h2,h3⟩:=Yi underlying28 mr h;have z:∀i,i<len->∃b y v,A=some ⟨b,y,none⟩/\b<w.heap.size/\w.cell? ⟨b,y+i,none⟩=some (.int .u8 (v:Nat))/\v<=255/\GZ w A i=(v:Nat):=by intro i hi;obtain⟨b,y,rfl,hb,hc⟩:=h3 mz;obtain⟨v0,y0,n0,c0,t0⟩:=hc i hi;obtain⟨x0,e0,_,w0⟩:=DataW.trod_int underlying5 t0;simp only[List.cons.injEq,and_true]at e0;subst e0;have G:=bounds_u8 w0;obtain⟨m,rfl⟩:=Iz G.1;exact⟨b,y,m,rfl,hb,c0,mz,KN c0⟩
 refine⟨(List.range len).map fun i=>(GZ w A i).toNat,pI,?_,?_,by unfold maxLen at h2;omega,J⟩
 ·intro t ht;obtain⟨i,hi,rfl⟩:=Cc.1 ht;obtain⟨b,y,v,_,_,_,hv,e⟩:=z i (Fm.1 hi);rw[e];omega
 ·intro hn;obtain⟨b,y,v,rfl,hb,_⟩:=z 0 hn;refine⟨b,y,rfl,hb,fun i j hi hj=> ?_⟩;obtain rfl:j=0:=by omega
  obtain⟨b',M,v',e1,_,hc,_,e2⟩:=z i hi;injection e1 with e1;injection e1 with e1 e3;subst e1 e3;have e:jZ .u8 ((List.range len).map fun i=>(GZ w (some ⟨b,y,none⟩) i).toNat) i 0= .int .u8 (v':Nat):=by unfold jZ;rw[Ar,BE,List.getElem?_range hi];simp[e2]
  rw[e,CG,Bj];exact hc
end Open
namespace Huff
open Go.RowKit Mem Canon Own
end Huff
namespace Huff
open Go.RowKit Mem Canon Own
end Huff
namespace Huff
open Go.RowKit Mem Canon Own Go.Proofs.YtfgdoknipbpfhaaGreatDoor.Open
theorem RN{B:Nat}{k:IntKind}{ls:List Int}(h:Row w B A n 1 (Hq k ls))(hn:ls.length=n)(hi:i<n):
 ∃b j,A=some ⟨b,j,none⟩/\w.cell? ⟨b,j+i,none⟩=some (.int k (ls.getD i 0)):=by
 obtain⟨b,j,e,hb,hc⟩:=h mz;have h1:=hc i 0 hi mz;rw[CG,Bj]at h1;exact⟨b,j,e,h1⟩
set_option maxRecDepth 100000 in
theorem MK(w:World)(A B:Option Addr)(n c d BA BB:Nat)(l:List Int)(hn:l.length=n)(hN:n<=9223372036854775807)(ha:Row w BA A n 1 (Hq .i64 l))(hb:Row w BB B n 1 (Hq .i64 l)):
 Calls prog 35 #[.slice A n c, .slice B n d] w fun e w'=>e= .returned (.bool true)/\∃q,w'=w.drewN q:=by
 have HN:=hid hn;clear hn;go_enter func35,ntmps35;go_wp2_with fail;go_loopw [5] (fun i wr=>∃k:Nat,k<=n/\i= .int .i64 k/\Hid (∃q,wr=w.drewN q)) (fun i _=>n-(intOf i).toNat)
 case atStart=>exact⟨0,mz,rfl,⟨0,rfl⟩⟩
 case round=>
  obtain⟨k,hk,rfl,h⟩:=hrel;by_cases E:k<n
  ·have j:Row wr BA A n 1 (Hq .i64 l):=(by obtain⟨q,hq⟩:=h.out;rw[hq];exact ha);have z:Row wr BB B n 1 (Hq .i64 l):=(by obtain⟨q,hq⟩:=h.out;rw[hq];exact hb);obtain⟨b,J,rfl,d0⟩:=RN j HN.out E;obtain⟨b',G,rfl,d1⟩:=RN z HN.out E;generalize l.getD k 0=y at *;have x0:(0:Int)<=(k:Int):=mz;have x1:(k:Int)<(n:Int):=mz;clear j z;go_wp2_with fail;go_quiet (fail);go_wp2_with fail;go_roundw
   case measure=>exact jo
   case rel=>go_light;refine⟨k+1,mz,jp,?_⟩;obtain⟨q,rfl⟩:=h.out;exact⟨_,FT _ _ _⟩
  ·obtain rfl:k=n:=by omega
   go_wp2_with fail;go_ret;exact⟨rfl,h.out⟩
end Huff
namespace Huff
open Go.RowKit Mem Canon Own
end Huff
namespace Huff
open Go.RowKit Mem Canon Own
open Toks (Tk Pc Du Em pw A0)
end Huff
namespace Lz
open Go.RowKit Mem Own Canon
open Toks (Tk A0)
end Lz
namespace Block
open Go.RowKit Mem Own Canon
open Nums Crc
open Huff (Cp Dx KO)
open Toks (Tk A0)
end Block
namespace Block
open Go.RowKit Mem Own Canon
open Nums Crc NumPut
open Huff (Cp)
open Toks (Tk)
theorem UE{ls:List Nat}(h:Row w w A n 1 (jZ .u8 ls))(h0:0<n):∀a,A=some a->a.add 0=a/\a.block<w.heap.size:=by intro a ha;obtain⟨b,i,rfl,hb,_⟩:=h h0;injection ha with ha;subst ha;exact⟨by rw[Mem.add_none,Bj],hb⟩
theorem XW(h:∀x∈l,x<=255)(i:Nat):l.getD i 0<=255:=by
 by_cases hi:i<l.length
 ·rw[Ar,AD hi];exact h _ (Fo hi)
 ·rw[Ar,Fp mz];show 0<=255;omega
theorem Q5{y:Nat}(h:∀x∈l,x<=255)(hy:y<=255):∀x∈l++ [y],x<=255:=fun x hx=>by
 rcases BJ.1 hx with hx|hx
 ·exact h x hx
 ·rw[Eu.1 hx];exact hy
theorem Rx:∀ (n d:Nat) (out:List Nat),(∀x∈out,x<=255)->∀x∈Lz.Dj out n d,x<=255
 |0,_,_,h=>h
 |n+1,d,_,h=>Rx n d _ (Q5 h (XW h _))
theorem Rl(most:Int):∀ (ts:List Tk) (out:List Nat),(∀t∈ts,0<=t.lit/\t.lit<=255)->(∀x∈out,x<=255)->∀x∈(Lz.ES most out ts).1,x<=255
 | [],_,_,h=>h
 |t :: ts,_,hl,h=>by
  have h1:=hl t pI;rw[Lz.ES];split
  ·refine Rl most ts _ (fun x hx=>hl x (BW _ hx)) ?_;split
   ·exact Q5 h mz
   ·exact Rx _ _ _ h
  ·intro x hx;cases hx
theorem Ru{bs:List Nat}(h8:∀x∈bs,x<=255):∀x∈opO bs,x<=255:=by
 intro x hx;unfold opO at hx;split at hx
 ·cases hx
 ·rename_i h0;unfold byO at hx;split at hx
  ·cases hx
  ·rename_i h1;have h1:byE (D9 bs) (hN bs) (hP bs) (CQ bs)=0:=(by simpa using h1);split at hx
   ·unfold CQ at hx;exact h8 x (U0 hx)
   ·rename_i hw
    have hr:(Cp (CQ bs) (hN bs)).2=0:=by
     unfold byE at h1;rw[Ab hw]at h1;split at h1
     ·contradiction
     ·rename_i h2;simpa using h2
    unfold Lz.Fy at hx;rw[Ab mz]at hx;exact Rl _ _ _ (fun t ht=>(Sn hr t ht).1) pI x hx
end Block
end Go.Proofs.YtfgdoknipbpfhaaGreatDoor
