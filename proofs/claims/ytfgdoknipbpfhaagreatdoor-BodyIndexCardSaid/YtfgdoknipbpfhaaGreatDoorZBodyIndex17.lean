/- The walk of package  -/
import Derived.Test.YtfgdoknipbpfhaaGreatDoorZBodyIndex16
import Derived.Test.YtfgdoknipbpfhaaGreatDoorZBodyIndex15
import Derived.Test.YtfgdoknipbpfhaaGreatDoorZBodyIndex12
namespace Go.Proofs.YtfgdoknipbpfhaaGreatDoor
variable{ks lf ls:List Nat}{limit:Int}{L i n s:Nat}{w:World}
namespace Lens
open Go.RowKit Mem Own Srt Canon
abbrev kOf(ks:List Nat):Nat->Nat:=fun s=>ks.getD s 0
theorem aY:(Tryz.prog.info? 3).map (fun i=>(i.zero,i.size,i.bytes))=some (some (.int .i64 0),1,8):=ni
end Lens
namespace Lens
open Srt Canon
def lenS(ks:List Nat)(L s:Nat):Nat:=
 if(Bb (kOf ks) ks.length).length<2 then if s∈Bb (kOf ks) ks.length then 1 else 0
 else Ci (kOf ks) (Bb (kOf ks) ks.length) (L-1) (2*(Bb (kOf ks) ks.length).length-2) s
theorem Nj(ks:List Nat)(L:Nat):Jy ks L=(List.range ks.length).map (lenS ks L):=by
 unfold Jy;show(if(Bb (kOf ks) ks.length).length<2 then _ else _)=_;split
 ·rename_i h;refine Hj fun s _=> ?_;unfold lenS;rw[Ag h]
 ·rename_i h;refine Hj fun s _=> ?_;unfold lenS;rw[Ae h]
theorem ok_parts(h:EI ks limit=0):
 ks.length<=300/\∃L:Nat,limit=L/\1<=L/\L<=15/\(Bb (kOf ks) ks.length).length<=2 ^ L/\Dy ks limit=(List.range ks.length).map (lenS ks L):=by
 have h0:=h;unfold EI at h;split at h
 ·cases h
 ·rename_i h1;split at h
  ·cases h
  ·rename_i h2;obtain⟨L,rfl⟩:∃L:Nat,limit=L:=⟨limit.toNat,nB⟩;refine⟨nB,L,rfl,nB,nB,Nat.le_of_not_lt h2,?_⟩;unfold Dy;rw[Ag h0,Br,Nj]
theorem Ob(h:EI ks limit=0):(Dy ks limit).length=ks.length:=by obtain⟨_,L,_,_,_,_,e⟩:=ok_parts h;rw[e];simp
theorem Oo(h:s ∉ Bb (kOf ks) ks.length):lenS ks L s=0:=by
 unfold lenS;split
 ·rfl
 ·exact XY _ _ _ h
theorem SJ{k f:Nat->Nat}(h:∀s,k s=0->f s=0):∀n,((List.range n).map f).sum=sm f (used k n)
 |0=>rfl
 |n+1=>by
  rw[Hi,DY,NG,SJ h n,used];split
  ·rename_i h0;simp[h n h0]
  ·rw[Kh];simp[sm]
theorem T5{k f:Nat->Nat}(h:∀s,k s=0->f s=0)(n:Nat):((List.range n).map f).sum=sm f (Bb k n):=by rw[SJ h n,lS (KL k n)]
theorem R8(h:kOf ks s=0):lenS ks L s=0:=Oo fun hs=>(Kj.1 hs).2 h
theorem LA(h1:1<=L)(h:(Bb (kOf ks) ks.length).length<=2 ^ L)(hs:s∈Bb (kOf ks) ks.length):1<=lenS ks L s/\lenS ks L s<=L:=by
 unfold lenS;split
 ·omega
 ·have h2:=(full (IH (kOf ks) ks.length) nB h1 h).2 s hs;have h3:=QW (k:=kOf ks) (S:=Bb (kOf ks) ks.length) (L-1) (2*(Bb (kOf ks) ks.length).length-2) s;omega
theorem aF(h1:1<=L)(h:(Bb (kOf ks) ks.length).length<=2 ^ L)(h2:2<=(Bb (kOf ks) ks.length).length):sm (fun s=>2 ^ (L-lenS ks L s)) (Bb (kOf ks) ks.length)=2 ^ L:=by have h3:=(full (IH (kOf ks) ks.length) h2 h1 h).1;rw[<-h3];refine Iq fun s _=> ?_;unfold lenS;rw[Ae nB]
theorem Xb(h:EI ks limit=0):EV (Dy ks limit)=if(Bb (kOf ks) ks.length).length=0 then 0 else if(Bb (kOf ks) ks.length).length=1 then 16384 else 32768:=by
 obtain⟨hn,L,rfl,h1,h2,h3,e⟩:=ok_parts h;unfold EV;rw[e,List.map_map,T5 (k:=kOf ks) (fun s hs=>by simp[R8 hs])];have e1:sm ((fun x=>if x=0 then 0 else 2 ^ (15-x)) ∘ lenS ks L) (Bb (kOf ks) ks.length)=sm (fun s=>2 ^ (15-lenS ks L s)) (Bb (kOf ks) ks.length):=Iq fun s hs=>by have:=(LA h1 h3 hs).1;show(if lenS ks L s=0 then 0 else _)=_;rw[Ae nB]
 rw[e1];by_cases q0:(Bb (kOf ks) ks.length).length=0
 ·rw[Ag q0,Hl q0];rfl
 ·rw[Ae q0];by_cases q1:(Bb (kOf ks) ks.length).length=1
  ·rw[Ag q1];have hx:∀s∈Bb (kOf ks) ks.length,2 ^ (15-lenS ks L s)=16384:=fun s hs=>by have:lenS ks L s=1:=(by unfold lenS;rw[Ag nB,Ag hs]);rw[this]
   rw[Iq (g:=fun _=>16384) hx,JU,q1]
  ·rw[Ae q1];have hx:∀s∈Bb (kOf ks) ks.length,2 ^ (15-lenS ks L s)=2 ^ (15-L)*2 ^ (L-lenS ks L s):=fun s hs=>by have:=(LA h1 h3 hs).2;rw[<-Nat.pow_add];congr 1;omega
   rw[Iq hx,Xy,aF h1 h3 nB,<-Nat.pow_add,show 15-L+L=15 by omega]
theorem WO(h:EI ks limit=0):(Dy ks limit).countP (fun x=>decide (x≠0))=(Bb (kOf ks) ks.length).length:=by
 obtain⟨hn,L,rfl,h1,h2,h3,e⟩:=ok_parts h
 have i:∀n,((List.range n).map (lenS ks L)).countP (fun x=>decide (x≠0))=((List.range n).map fun s=>if lenS ks L s=0 then 0 else 1).sum:=by
  intro n
  induction n with
  |zero=>rfl
  |succ n ih=>rw[Hi,DY,DY,List.countP_append,NG,ih];by_cases hz:lenS ks L n=0<;>simp[hz]
 rw[e,i,T5 (k:=kOf ks) (fun s hs=>by rw[Ag (R8 hs)])];have hx:∀s∈Bb (kOf ks) ks.length,(if lenS ks L s=0 then 0 else 1)=1:=fun s hs=>by have:=(LA h1 h3 hs).1;rw[Ae nB]
 rw[Iq (g:=fun _=>1) hx,JU,EK]
theorem Wv{f:Nat->Nat}(h:s<n):((List.range n).map f).getD s 0=f s:=by rw[Aq,BR,List.getElem?_range h];rfl
end Lens
namespace Lens
open Srt Canon
theorem XF(hE:EI ks 15=0)(hn:ks.length<=300):Cq (Dy ks 15)=true:=by
 refine Up (by rw[Ob hE];exact hn) fun x hx=> ?_;obtain⟨_,L,hL,h1,h2,h3,e⟩:=ok_parts hE;rw[e]at hx;obtain⟨s,_,rfl⟩:=Cl.1 hx;by_cases hm:s∈Bb (kOf ks) ks.length
 ·have:=(LA h1 h3 hm).2;omega
 ·rw[Oo hm];omega
theorem Su(hE:EI ks 15=0)(hn:ks.length<=300):okB (Dy ks 15)=true:=by
 have hg:=XF hE hn;have hu:=WO hE;have hk:=Xb hE;have hc:=QS hg
 have h0:FG (Dy ks 15)=0:=by
  rw[hc,Ag];by_cases q0:(Bb (kOf ks) ks.length).length=0
  ·left;unfold Canon.used;rw[hu,q0]
  ·by_cases q1:(Bb (kOf ks) ks.length).length=1
   ·right;left
    refine⟨by unfold Canon.used;rw[hu,q1],?_⟩;have:cnt (Dy ks 15) 1=(Dy ks 15).countP (fun x=>decide (x≠0)):=(by unfold cnt;refine List.countP_congr fun x hx=> ?_;obtain⟨_,L,hL,h1,h2,h3,e⟩:=ok_parts hE;rw[e]at hx;obtain⟨s,_,rfl⟩:=Cl.1 hx;have h:lenS ks L s<=1:=(by unfold lenS;rw[Ag nB];split<;>omega);simp;omega);rw[this,hu,q1]
   ·right;right
    rw[hk,Ae q0,Ae q1]
 unfold FG at h0;split at h0
 ·assumption
 ·cases h0
end Lens
namespace Lens
open Go.RowKit Mem Own Srt Canon
theorem drop_at{α:Type}{l:List α}{x:α}(h:l[i]? =some x):l.drop i=x :: l.drop (i+1):=by obtain⟨hi,rfl⟩:=BS.1 h;exact Dx hi
end Lens
namespace Lens
open Go.RowKit Mem Own Srt Canon
def Kd(ks:List Nat)(limit:Int)(w:World)(e:Ending)(w':World):Prop:=
 ∃A c,e= .returned (.tuple #[.slice A (Dy ks limit).length c, .int .i64 (EI ks limit)])/\Row w' w' A (Dy ks limit).length 1 (kZ .u8 (Dy ks limit))/\Wf A (Dy ks limit).length c/\Below w w w'/\(0<(Dy ks limit).length->∀p,A=some p->w.heap.size<=p.block)
theorem M5{w':World}{e:Ending}{x:Int}(hx:x≠0)(h:EI ks limit=x)(he:e= .returned (.tuple #[(),x]))(hb:Below w w w'):Kd ks limit w e w':=by
 have h0:Dy ks limit= []:=by unfold Dy;rw[Ae (by rw[h];exact hx)]
 refine⟨none,0,?_,?_,?_,hb,fun _ p hp=>by cases hp⟩
 ·rw[he,h0,h];rfl
 ·rw[h0];exact Row.zero
 ·rw[h0];exact Wf.nil
theorem Xm:(Tryz.prog.info? 5).map (fun i=>(i.zero,i.size,i.bytes))=some (some (.int .u8 0),1,1):=ni
theorem run_head{P:Program}{t e:TypeId}(ht:P.underlying t=some (.slice e))(hs:∀w,(sizeOf e).run P w= .ok s w)(A:Option Addr)(len i:Nat)(kh:IntKind)(h:Int)(m:Nat)(hh:h=m)(hm:m<=i)(w:World):
 (Instr.slice t (.slice A len i) none (some (.int kh h)) none).run P w= .ok (.slice (Ba A 0 i s) m i) w:=by
 subst hh;have he:P.elem t=e:=p6
 rw[run_slice_h w t A len i pg kh (m:Int) nB nB,he,hs];rfl
end Lens
namespace Lens
open Go.RowKit Mem Own Srt Canon
structure Syms (ks:List Nat) (n:Nat) (S:List Nat):Prop where
 sorted:S.Pairwise (Lt (kOf ks))
 nodup:S.Nodup
 below:∀s∈S,s<n
 small:∀s∈S,kOf ks s<=4294967295
 two:2<=S.length
 few:S.length<=300
 le:S.length<=n
theorem ZV{S:List Nat}(h:Syms ks n S){r:Nat}(hr:r<=14):(∀y∈rowN (lv (kOf ks) S) r,y.2≠ []/\y.1<=70368744161280)/\S.length<=(rowN (lv (kOf ks) S) r).length/\(rowN (lv (kOf ks) S) r).length<=2*S.length:=by
 have h2:=h.two;refine⟨fun y hy=>⟨Nz r y hy,?_⟩,?_,?_⟩
 ·have h1:=PZ h.small r y hy;have h3:2 ^ r<=2 ^ 14:=Cf nB hr;have h4:2 ^ r*4294967295<=2 ^ 14*4294967295:=GG _ h3;omega
 ·rcases r with _|r
  ·rw[KV];exact Am _
  ·rw[Ol];omega
 ·have h3:=P8 (k:=kOf ks) (S:=S) nB r;generalize (S.length-1) / 2 ^ r=d at h3;omega
end Lens
namespace TW
open Canon Huff Lens
open Toks (Tk Pc rZ EQ Bd bump CZ Eg DJ lg pw Within)
theorem Jh(hn:ks.length<=300):EI ks 15=0:=by
 unfold EI;rw[Ae nB,Ae];have h:=Og (kOf ks) ks.length;show ¬2 ^ (15:Int).toNat<(Bb (kOf ks) ks.length).length;have:(2:Nat) ^ (15:Int).toNat=32768:=ji
 omega
theorem PI(hn:ks.length<=300)(hs:s<ks.length)(h0:ks.getD s 0≠0):(Dy ks 15).getD s 0≠0:=by have hE:=Jh hn;obtain⟨h,L,hL,h1,h2,h3,e⟩:=ok_parts hE;rw[e,Wv hs];have hm:s∈Bb (kOf ks) ks.length:=Kj.2 ⟨hs,h0⟩;have:=(LA h1 h3 hm).1;omega
theorem Om(l:List Int)(i j:Nat):l.getD j 0<=(bump l i).getD j 0:=by
 unfold bump;simp only[List.getD_eq_getElem?_getD,List.getElem?_set];split
 ·rename_i h;subst h;split
  ·simp;omega
  ·rename_i h2;rw[FO nB];simp
 ·omega
theorem Oh{l:List Int}(h:i<l.length):(bump l i).getD i 0=l.getD i 0+1:=by unfold bump;simp only[List.getD_eq_getElem?_getD,List.getElem?_set];rw[Ag trivial,Ag h];rfl
theorem QK(st:List Int×List Int)(t:Tk)(j:Nat):st.1.getD j 0<=(CZ st t).1.getD j 0/\st.2.getD j 0<=(CZ st t).2.getD j 0:=by
 unfold CZ;refine⟨Om _ _ _,?_⟩;simp only;split
 ·omega
 ·exact Om _ _ _
theorem Qx(ts:List Tk):∀ (st:List Int×List Int) (j:Nat),st.1.getD j 0<=(ts.foldl CZ st).1.getD j 0/\st.2.getD j 0<=(ts.foldl CZ st).2.getD j 0:=by
 induction ts with
 |nil=>intro st j;exact⟨pR,pR⟩
 |cons t ts ih=>intro st j;have h:=ih (CZ st t) j;have h2:=QK st t j;rw[List.foldl_cons];exact⟨nB,nB⟩
theorem Oc{t:Tk}:∀ (ts:List Tk) (st:List Int×List Int),t∈ts->
 ((rZ t).sym.toNat<st.1.length->st.1.getD (rZ t).sym.toNat 0+1<=(ts.foldl CZ st).1.getD (rZ t).sym.toNat 0)/\
 (t.len≠0->(rZ t).dist.toNat<st.2.length->st.2.getD (rZ t).dist.toNat 0+1<=(ts.foldl CZ st).2.getD (rZ t).dist.toNat 0)
 | [],_,h=>jh
 |x :: ts,st,h=>by
  rw[List.foldl_cons];have hl:=Toks.QI st x;have hs:=QK st x;rcases BK.1 h with rfl|h
  ·refine⟨fun hS=> ?_,fun h0 hD=> ?_⟩
   ·have h1:=(Qx ts (CZ st t) (rZ t).sym.toNat).1;have h2:(CZ st t).1.getD (rZ t).sym.toNat 0=st.1.getD (rZ t).sym.toNat 0+1:=Oh hS;omega
   ·have h1:=(Qx ts (CZ st t) (rZ t).dist.toNat).2;have h2:(CZ st t).2.getD (rZ t).dist.toNat 0=st.2.getD (rZ t).dist.toNat 0+1:=(by unfold CZ;simp only;rw[Ae h0];exact Oh hD);omega
  ·have ih:=Oc ts (CZ st x) h;refine⟨fun hS=> ?_,fun h0 hD=> ?_⟩
   ·have h1:=ih.1 (by rw[hl.1];exact hS);have h2:=(hs (rZ t).sym.toNat).1;omega
   ·have h1:=ih.2 h0 (by rw[hl.2];exact hD);have h2:=(hs (rZ t).dist.toNat).2;omega
theorem PD{t:Tk}(hl:t.len≠0)(hm:Bd t.lit t.len t.dist=true):
 ∃b L D F:Nat,rZ t=⟨((257+b:Nat):Int),L,D,F⟩/\b<8/\D<12/\L<2 ^ b/\F<2 ^ D:=by
 have hb:t.lit=0/\3<=t.len/\t.len<=257/\1<=t.dist/\t.dist<=4095:=by unfold Bd at hm;rw[Ae hl]at hm;exact of_decide_eq_true hm
 have a1:=Toks.I0 (t.len-2);have a2:=Toks.Jl (t.len-2) 8 nB nB (by rw[Toks.pw_8];omega);have a3:=Toks.J1 (t.len-2) nB;have a4:=Toks.KY (t.len-2) nB;have b1:=Toks.I0 t.dist;have b2:=Toks.Jl t.dist 12 nB nB (by rw[Toks.O6];omega);have b3:=Toks.J1 t.dist nB;have b4:=Toks.KY t.dist nB;refine⟨(lg (t.len-2)).toNat,(t.len-2-pw (lg (t.len-2))).toNat,(lg t.dist).toNat,(t.dist-pw (lg t.dist)).toNat,?_,nB,nB,?_,?_⟩
 ·unfold rZ;rw[Ag hm,Ae hl];congr 1<;>omega
 ·have:pw (lg (t.len-2))=((2 ^ (lg (t.len-2)).toNat:Nat):Int):=rfl;omega
 ·have:pw (lg t.dist)=((2 ^ (lg t.dist).toNat:Nat):Int):=rfl;omega
theorem TN{t:Tk}(h0:0<=t.lit)(hl:t.len=0)(hm:Bd t.lit t.len t.dist=true):rZ t=⟨((t.lit.toNat:Nat):Int),0,0,0⟩:=by unfold rZ;rw[Ag hm,Ag hl,Int.toNat_of_nonneg h0]
def BQ(ls lf:List Nat)(t:Tk):List Bool:=
 word ls (rZ t).sym.toNat++if t.len=0 then []else
  msb (rZ t).len.toNat ((rZ t).sym.toNat-257) ((rZ t).sym.toNat-257)++(word lf (rZ t).dist.toNat++msb (rZ t).far.toNat (rZ t).dist.toNat (rZ t).dist.toNat)
def Is(l:List Int):List Nat:=l.map Int.toNat
theorem M1(l:List Int):(Is l).length=l.length:=by simp[Is]
theorem Mr(l:List Int)(i:Nat):(Is l).getD i 0=(l.getD i 0).toNat:=by unfold Is;rw[Aq,Aq,BR];cases l[i]? <;>rfl
def ksS(ts:List Tk):List Nat:=Is (Toks.symsOf ts)
def ksF(ts:List Tk):List Nat:=Is (Toks.LO ts)
theorem Hz(ts:List Tk):(ksS ts).length=265:=by unfold ksS Toks.symsOf;rw[M1,Toks.Pg,(Toks.Lj ts).1]
theorem IP(ts:List Tk):(ksF ts).length=12:=by unfold ksF Toks.LO;rw[M1,(Toks.Lj ts).2]
def lsS(ts:List Tk):List Nat:=Dy (ksS ts) 15
def lsF(ts:List Tk):List Nat:=Dy (ksF ts) 15
theorem Tg(ts:List Tk):(lsS ts).length=265:=by unfold lsS;rw[Ob (Jh oI),Hz]
theorem S5(ts:List Tk):(lsF ts).length=12:=by unfold lsF;rw[Ob (Jh (by rw[IP];omega)),IP]
theorem OB(ts:List Tk):okB (lsS ts)=true:=Su (Jh oI) oI
theorem Ow(ts:List Tk):okB (lsF ts)=true:=Su (Jh (by rw[IP];omega)) (by rw[IP];omega)
theorem Oj{ts:List Tk}{t:Tk}(h:t∈ts)(hs:(rZ t).sym.toNat<265):(lsS ts).getD (rZ t).sym.toNat 0≠0:=by
 have h1:=(Oc ts (List.replicate 265 0,List.replicate 12 0) h).1 (by show _<(List.replicate 265 (0:Int)).length;rw[Ez];exact hs);have h2:=Om (Eg ts).1 256 (rZ t).sym.toNat;refine PI oI (by rw[Hz];exact hs) ?_;unfold ksS;rw[Mr];have h3:(List.replicate 265 (0:Int)).getD (rZ t).sym.toNat 0=0:=by simp only[List.getD_eq_getElem?_getD,List.getElem?_replicate];split<;>rfl
 change _<=(Eg ts).1.getD _ 0 at h1
 simp only[h3]at h1;show(Toks.bump (Eg ts).1 256 |>.getD _ 0).toNat≠0;omega
theorem Ql(ts:List Tk):(lsS ts).getD 256 0≠0:=by have h2:(bump (Eg ts).1 256).getD 256 0=(Eg ts).1.getD 256 0+1:=Oh (by rw[(Toks.Lj ts).1];omega);have h1:=(Toks.Nb ts).1 256;refine PI oI oI ?_;unfold ksS;rw[Mr];show(Toks.bump (Eg ts).1 256 |>.getD _ 0).toNat≠0;omega
theorem Oe{ts:List Tk}{t:Tk}(h:t∈ts)(h0:t.len≠0)(hs:(rZ t).dist.toNat<12):(lsF ts).getD (rZ t).dist.toNat 0≠0:=by
 have h1:=(Oc ts (List.replicate 265 0,List.replicate 12 0) h).2 h0 (by show _<(List.replicate 12 (0:Int)).length;rw[Ez];exact hs);refine PI (by rw[IP];omega) (by rw[IP];exact hs) ?_;unfold ksF;rw[Mr];have h3:(List.replicate 12 (0:Int)).getD (rZ t).dist.toNat 0=0:=by simp only[List.getD_eq_getElem?_getD,List.getElem?_replicate];split<;>rfl
 change _<=(Eg ts).2.getD _ 0 at h1
 simp only[h3]at h1;show((Eg ts).2.getD _ 0).toNat≠0;omega
def FC(ts:List Tk):List Bool:=Fk (lsS ts)++Fk (lsF ts)++(ts.flatMap (BQ (lsS ts) (lsF ts))++word (lsS ts) 256)
def Ib(ts:List Tk):Int:=if 32768<ts.length then 6 else if DJ ts=true then 0 else 7
def G9(ts:List Tk):List Nat:=if Ib ts=0 then bytesOf (FC ts)else []
theorem wrGo_length(ls:List Nat):∀f i,(DV ls f i).length<=10*(ls.length-i)
 |0,i=>by simp[DV]
 |f+1,i=>by
  unfold DV;by_cases h:i<ls.length
  ·rw[Ag h];by_cases h0:ls.getD i 0=0
   ·have hx:ls[i]? =some 0:=(by rw[Aq,AD h]at h0;rw[AD h];exact AM some h0);have r1:1<=BZ ls i 64:=(by have:=KT hx 63;show 1<=BZ ls i (63+1);omega);have rf:=MH ls 64 i nB;have ih:=wrGo_length ls f (i+BZ ls i 64);rw[Ag h0,Aj,Aj,uZ,uZ];omega
   ·have ih:=wrGo_length ls f (i+1);rw[Ae h0,Aj,uZ];omega
  ·rw[Ae h];simp
theorem So(ls:List Nat):(Fk ls).length<=10*ls.length:=wrGo_length ls ls.length 0
theorem Lw(h:∀x∈ls,x<=15)(s:Nat):ls.getD s 0<=15:=by
 rw[Aq];cases hx:ls[s]? with
 |none=>simp
 |some x=>simpa using h x (AY hx)
theorem Ya(h:∀x∈ls,x<=15)(h':∀x∈lf,x<=15){t:Tk}(hm:Bd t.lit t.len t.dist=true):(BQ ls lf t).length<=48:=by
 unfold BQ;have h1:=Lw h (rZ t).sym.toNat;have h2:=Lw h' (rZ t).dist.toNat;by_cases h0:t.len=0
 ·rw[Ag h0,Cx,Fh];omega
 ·obtain⟨b,L,D,F,e,hb,hD,hL,hF⟩:=PD h0 hm;rw[Ae h0,Aj,Aj,Aj,Fh,Fh,uZ,uZ];rw[e]at h1 h2 ⊢;simp only[Int.toNat_natCast]at h1 h2 ⊢;omega
theorem OR{ls lf:List Nat}(h:∀x∈ls,x<=15)(h':∀x∈lf,x<=15):∀ {ts:List Tk},DJ ts=true->(ts.flatMap (BQ ls lf)).length<=48*ts.length
 | [],_=>pR
 |t :: ts,hm=>by unfold DJ at hm;rw[List.all_cons,Ch]at hm;have h1:=Ya h h' hm.1;have h2:=OR h h' (ts:=ts) hm.2;rw[Dm,Aj,AI];omega
theorem ZC{ts:List Tk}{k:Nat}(h:k<ts.length):(ts.take (k+1)).flatMap (BQ ls lf)=(ts.take k).flatMap (BQ ls lf)++BQ ls lf ts[k]:=by rw[List.take_succ_eq_append_getElem h,I9];simp
end TW
namespace Huff
open Go.RowKit Mem Canon Own
theorem TE{K L:Nat->Prop}{a:World}(h:Kept K a w)(hl:∀k,L k->K k):Kept L a w:=⟨h.os,h.tape,h.output,h.size,fun k e=>h.block k (hl k e)⟩
theorem RM{lo B:Nat}{A:Option Addr}{f:Nat->Nat->Value}(h:Row w B A n s f)(i:0<n->∀p,A=some p->lo<=p.block):RowIn w lo B A n s f:=fun hn=>by obtain⟨b,j,e,hb,hc⟩:=h hn;exact⟨b,j,e,⟨i hn _ e,hb⟩,hc⟩
end Huff
namespace Huff
open Go.RowKit Mem Canon Own
open Toks (Tk Pc rZ EQ Bd)
theorem Mm(h:ls.getD s 0≠0):Gh ls (s:Int)≠0:=by unfold Gh;rw[Ae nB,Br];exact h
end Huff
end Go.Proofs.YtfgdoknipbpfhaaGreatDoor
