/- Plain: numbers, colu -/
import Derived.Test.YtfgdoknipbpfhaaGreatDoorZBodyOpened33
import Derived.Test.YtfgdoknipbpfhaaGreatDoorZBodyOpened40
namespace Go.Proofs.YtfgdoknipbpfhaaGreatDoor
variable{bound d i j k x:Nat}{C L T a:List Nat}{w:World}
namespace Nums
open NumPut Go.Proofs.YtfgdoknipbpfhaaGreatDoor.One
theorem GT{bs rest:List Nat}{most:Nat}(h:bs.drop k=fZ x++rest)(hx:x<=most)(hm:most<=1000000000):Ba most bs k 0=x/\AM most bs k 0=k+(fZ x).length/\AO most bs k 0=0:=by unfold Ba AM AO;rw[h,PM hx hm];simp
theorem XA{bs rest:List Nat}(h:bs.drop k=fZ x++rest)(hx:x<18446744073709551616):Hf bs k 0=x/\IT bs k 0=k+(fZ x).length/\IR bs k 0=0:=by unfold Hf IT IR;rw[h,QN hx];simp
theorem WD{bs rest:List Nat}(h:bs.drop k=x :: rest):GE bs k 0=x/\takeA bs k 0 1=k+1/\BQ bs k 0 1=0/\bs.drop (k+1)=rest:=by
 have hl:1<=bs.length-k:=by have:=AE List.length h;rw[AU,AI]at this;omega
 have hb:bs.getD k 0=x:=by
  have:(bs.drop k)[0]? =some x:=oV
  rw[I3,Bj]at this;rw[Ar,this];rfl
 unfold GE takeA BQ;refine⟨by rw[Ab pI,hb],np,np,?_⟩;rw[<-List.drop_drop,h];rfl
theorem Wh{bs rest:List Nat}(h:bs.drop k=a++rest):Bx bs k 0 a.length=a/\takeA bs k 0 a.length=k+a.length/\BQ bs k 0 a.length=0:=by
 have hl:a.length<=bs.length-k:=by have:=AE List.length h;rw[AU,Aj]at this;omega
 unfold Bx takeA BQ;refine⟨by rw[Ab pI,Ab mz,h,List.take_left],np,np⟩
end Nums
namespace Recs
open NumPut Nums Go.Proofs.YtfgdoknipbpfhaaGreatDoor.One
theorem nM(h:d<18446744073709551616):GU (Gm d)=d:=by unfold GU Gm;split<;>split<;>omega
theorem Rr{bs rest:List Nat}:∀ (ts:List Nat) (at_ i:Nat) (j:List Nat),bs.drop at_=Cj stepT i ts++rest->i<18446744073709551616->(∀t∈ts,t<18446744073709551616)->FO ts.length bs at_ i j=(j++ts,at_+(Cj stepT i ts).length,0)
 | [],at_,i,j,_,_,_=>by simp[FO,Cj]
 |t :: ts,at_,i,j,h,hw,ht=>by
  have h0:=ht t CD;rw[Cj,AJ]at h;have h:bs.drop at_=fZ (Gm (IA t i))++(Cj stepT t ts++rest):=h;obtain⟨e1,e2,e3⟩:=XA h (MJ (MC _ _));have ev:(i+GU (Gm (IA t i))) % 18446744073709551616=t:=by rw[nM (MC _ _)];unfold IA;omega
  rw[AI,FO,e1,e2,e3,Ab pI,ev,Rr ts _ t _ (Ew h) h0 (fun x hx=>ht x (BW _ hx)),Cj,Aj];simp[stepT,Nat.add_assoc]
theorem TE(x:Nat):∀l:List Nat,l.take (lead x l)=List.replicate (lead x l) x
 | []=>by simp[lead]
 |y :: t=>by
  rw[lead];split
  ·rename_i h;rw[List.take_succ_cons,TE x t,List.replicate_succ,h]
  ·simp
theorem Ts(x:Nat):∀l:List Nat,(l.drop (lead x l)).head?≠some x
 | []=>by simp[lead]
 |y :: t=>by
  rw[lead];split
  ·rw[List.drop_succ_cons];exact Ts x t
  ·rename_i h;simpa using h
theorem QM{bs rest:List Nat}{n:Nat}(hn:n<=1000000000):∀ (f:Nat) (l:List Nat) (at_:Nat) (i:List Nat),l.length<=f->i.length+l.length=n->bs.drop at_=lvB l++rest->(∀x,l.head?=some x->i.getLast?≠some x)->Ff f n bs at_ i=(i++l,at_+(lvB l).length,0)
 |f,[],at_,i,_,hs,_,_=>by rw[Rh (by simp at hs;omega),lvB];simp
 |f+1,x :: t,at_,i,hf,hs,h,hx=>by
  have hl:=OZ x t;simp only[List.length_cons]at hf hs;rw[lvB,Ec,AJ]at h;obtain⟨b1,b2,b3,b4⟩:=WD h;obtain⟨i1,i2,i3⟩:=GT (most:=n-i.length) b4 mz mz;have ho:Ic (n-i.length) bs at_=(x,lead x t+1,at_+1+(fZ (lead x t+1)).length,0):=by unfold Ic;rw[b1,b2,b3,i1,i2,i3]
  have he:KV i (x,lead x t+1,at_+1+(fZ (lead x t+1)).length,0)=0:=by
   unfold KV;rw[Ab pI,Ab];rintro(h0|h0)
   ·simp at h0
   ·exact hx x rfl h0
  rw[Ff,Ab mz,ho,he,Ab pI];simp only;rw[QM hn f (t.drop (lead x t)) _ (i++List.replicate (lead x t+1) x) nm (by rw[Aj,Dr,AU];omega) (Ew b4) (fun y hy=>by rw[List.getLast?_append,List.getLast?_replicate,Ab mz];intro e;have:x=y:=(by simpa using e);subst this;exact Ts _ _ hy)];rw[lvB,AJ];refine Prod.ext ?_ (Prod.ext ?_ rfl)
  ·simp only;rw[List.replicate_succ,Ec,<-TE,EM]
  ·simp only[List.length_cons,List.length_append];omega
theorem kW{l:List Rec}(h:∀r∈l,BY r):∀t∈Bb l,t<18446744073709551616:=fun t ht=>by obtain⟨r,hr,rfl⟩:=Cc.1 ht;obtain⟨h1,h2,_,_⟩:=h r hr;omega
theorem V2{l:List Rec}(h:∀r∈l,BY r)(hn:l.length<=20000):Ee l.length (Dh l)=(Bb l,xZ l,(Dh l).length,0):=by
 have ht:=Rr (bs:=Dh l) (rest:=lvB (xZ l)) (Bb l) 0 0 [] rfl mz (kW h);have hd:(Dh l).drop (0+(Cj stepT 0 (Bb l)).length)=lvB (xZ l)++ []:=by unfold Dh;rw[Ck,List.drop_left,Ce]
 have i:(Bb l).length=l.length:=by unfold Bb;rw[Bc]
 have j:(xZ l).length=l.length:=by unfold xZ;rw[Bc]
 have hv:=QM (n:=l.length) mz l.length (xZ l) _ [] mz (by simp[j]) hd (fun x _=>by simp);rw[i]at ht;unfold Ee;rw[ht];unfold JN;rw[Ab pI];simp only;rw[hv];unfold MM;rw[Ab pI];simp only[List.nil_append];refine Prod.ext rfl (Prod.ext rfl (Prod.ext ?_ rfl));unfold Dh;simp only[List.length_append];omega
end Recs
namespace Crc
theorem Ph(b:List Nat):CL (b++CR (Cn b))=0/\Br (b++CR (Cn b))=b:=by
 have ht:(CR (Cn b)).length=4:=rfl;have hl:(b++CR (Cn b)).length-4=b.length:=nz
 have h4:4<=(b++CR (Cn b)).length:=nz
 have hC:CL (b++CR (Cn b))=0:=by unfold CL;rw[Ab mz,hl,List.take_left,List.drop_left,Ae rfl]
 exact⟨hC,by unfold Br;rw[Ae hC,hl,List.take_left]⟩
end Crc
namespace Idx
open NumPut Nums Go.Proofs.YtfgdoknipbpfhaaGreatDoor.One
theorem VQ(s:Str):toS (G9 s)=s:=by
 unfold toS G9;rw[List.map_map]
 conv=>rhs;rw[<-List.map_id s]
 exact Kf fun x _=>pI
theorem Te{bs rest:List Nat}{s:Str}(h:bs.drop k=Dc s++rest)(hs:s.length<=25):EI 25 bs k 0=G9 s/\DQ 25 bs k 0=k+(Dc s).length/\DJ 25 bs k 0=0:=by
 have hl:(G9 s).length=s.length:=by unfold G9;rw[Bc]
 have hp:Co 25 (bs.drop k)=(G9 s,(Dc s).length,0):=by rw[h];unfold Co Dc;rw[AJ,PM hs mz];simp only[List.length_append,hl,List.drop_left];rw[Ab pI,Ab mz,<-hl,List.take_left]
 unfold EI DQ DJ;rw[hp];simp
theorem Rf:∀a b:Str,a.take (Bt a b)=b.take (Bt a b)
 | [],b=>by simp[Bt]
 |a :: s,[]=>by simp[Bt]
 |a :: s,b :: t=>by
  rw[Bt];split
  ·rename_i h;rw[List.take_succ_cons,List.take_succ_cons,Rf s t,h]
  ·simp
theorem VE:∀ {a b:Str},a<b->Bt a b<b.length
 | [],[],h=>absurd h (Ir _)
 | [],b :: t,_=>by simp[Bt]
 |a :: s,[],h=>absurd h pI
 |a :: s,b :: t,h=>by
  rw[Bt];split
  ·rename_i e;subst e;rw[List.cons_lt_cons_iff]at h;rcases h with h|h
   ·exact absurd h (UInt8.lt_irrefl _)
   ·have:=VE h.2;rw[AI];omega
  ·simp
theorem Mt{i x:Str}(h:El i x=true):1<=x.length/\x.length<=25/\i<x:=by unfold El at h;rw[BX,BX,decide_eq_true_iff,decide_eq_true_iff,decide_eq_true_iff]at h;exact h
theorem mD{bs rest:List Nat}{i x:Str}(h:bs.drop k=Dc x++rest)(hm:El i x=true):EH bs i true k=(x,k+(Dc x).length,0):=by
 obtain⟨m1,m2,m3⟩:=Mt hm;obtain⟨e1,e2,e3⟩:=Te h m2;unfold EH nxN nxA nxE;simp only[if_true];rw[e1,e2,e3,VQ];unfold nxS;rw[Ab pI,List.take_zero,FA,Ab];rintro(h0|h0|h0)
 ·rw[h0]at m1;simp at m1
 ·rw[hm]at h0;cases h0
 ·cases h0.1
theorem mX{bs rest:List Nat}{i x:Str}(h:bs.drop k=fZ (Bt i x)++(Dc (x.drop (Bt i x))++rest))(hw:i.length<=25)(hm:El i x=true):EH bs i false k=(x,k+(fZ (Bt i x)).length+(Dc (x.drop (Bt i x))).length,0):=by
 obtain⟨m1,m2,m3⟩:=Mt hm;have ha:=KM i x;have j:=VE m3;obtain⟨i1,i2,i3⟩:=GT (most:=i.length) h ha.1 mz;obtain⟨e1,e2,e3⟩:=Te (Ew h) nm;unfold EH nxN nxA nxE;simp only[Bool.false_eq_true,if_false];rw[i1,i2,i3,e1,e2,e3,VQ];unfold nxS;rw[Rf,EM,Ab pI,Ab];rintro(h0|h0|h0)
 ·have:=AE List.length h0;rw[AU,De]at this;omega
 ·rw[hm]at h0;cases h0
 ·exact h0.2 rfl
theorem SP{bs:List Nat}:∀ (t:List Str) (j:Str) (k:Nat) (i:List Str),i.getLast?.getD []=j->j.length<=25->bs.drop k=Eg j t->k<=bs.length->Dd j t=true->CU bs t.length false k i=(i++t,0)
 | [],j,k,i,_,_,h,_,_=>by
  have:¬k<bs.length:=fun hk=>by have:=AE List.length h;rw[AU,Eg,De]at this;omega
  show(i,Gu bs k 0)=_;unfold Gu;rw[Ab this,Ce]
 |x :: t,j,k,i,ha,hw,h,hk,hr=>by rw[Dd,BX]at hr;obtain⟨m1,m2,m3⟩:=Mt hr.1;rw[Eg,AJ]at h;have hn:=mX h hw hr.1;have h2:=Ew (Ew h);have hl:=AE List.length h;simp only[List.length_drop,List.length_append]at hl;rw[AI,CU,ha,hn,Ab pI];simp only;rw[SP t x _ (i++ [x]) pI m2 h2 mz hr.2,AJ];rfl
theorem Xx{c h:List Str}(h0:c≠ [])(hr:Dd (h.getLast?.getD []) c=true):CU (tZ c) c.length true 0 h=(h++c,0):=by
 cases c with
 |nil=>exact absurd rfl h0
 |cons x t=>rw[Dd,BX]at hr;obtain⟨m1,m2,m3⟩:=Mt hr.1;have hn:=mD (bs:=tZ (x :: t)) (k:=0) (rest:=Eg x t) rfl hr.1;rw[AI,CU,hn,Ab pI];simp only;rw[SP t x _ (h++ [x]) pI m2 (by rw[Ck];exact List.drop_left) (by rw[tZ,Aj];omega) hr.2,AJ];rfl
theorem Qx:∀ (a b:List Str) (i:Str),Dd i (a++b)=true->Dd i a=true/\Dd (a.getLast?.getD i) b=true
 | [],b,i,h=>⟨rfl,h⟩
 |x :: a,b,i,h=>by
  rw[Ec,Dd,BX]at h;obtain⟨h1,h2⟩:=Qx a b x h.2;refine⟨by rw[Dd,BX];exact⟨h.1,h1⟩,?_⟩;cases a with
  |nil=>exact h2
  |cons y s=>simpa[List.getLast?_cons]using h2
theorem j4(a b:List Str):(a++b).getLast?.getD []=b.getLast?.getD (a.getLast?.getD []):=by rw[List.getLast?_append];cases b.getLast?<;>rfl
theorem Vs{bs rest:List Nat}{size:Nat}(h1:1<=size):∀ (f:Nat) (l:List Str) (k:Nat) (i:List Str),l.length<=f->bs.drop k=(Dn size f l).flatMap tZ++rest->Dd (i.getLast?.getD []) l=true->
 bkR size bs ((Dn size f l).map fun c=>(tZ c).length) l.length k i=(i++l,k+((Dn size f l).flatMap tZ).length,0)
 |0,l,k,i,hf,_,_=>by obtain rfl:l= []:=Gr mz;simp[Dn,bkR]
 |f+1,l,k,i,hf,h,hr=>by
  rw[Dn]at h ⊢;by_cases e:l= []
  ·subst e;simp[bkR]
  ·have hp:1<=l.length:=FD.2 e;rw[Ab e]at h ⊢;rw[Ct,AJ]at h;obtain⟨t1,t2,t3⟩:=Wh h;have hc:l.take size≠ []:=fun h0=>by have:=AE List.length h0;rw[Bd,De]at this;omega
   have j:=Qx (l.take size) (l.drop size) _ (by rw[EM];exact hr);have hb:=Xx hc j.1;rw[Bd]at hb;rw[Cs,bkR,t1,t2,t3,Ab pI,hb,Ab pI];simp only;have ih:=Vs h1 f (l.drop size) (k+(tZ (l.take size)).length) (i++l.take size) nm (Ew h) (by rw[j4];exact j.2);rw[AU]at ih;rw[ih,AJ,EM,Ct,Aj,Nat.add_assoc]
theorem QX{bs rest:List Nat}{size n:Nat}(h1:1<=size):∀ (f g:Nat) (l:List Str) (k x:Nat) (i:List Nat),l.length<=f->l.length<=g->l.length=n-x->bs.drop k=(Dn size g l).flatMap (fun c=>fZ (tZ c).length)++rest->(∀c∈Dn size g l,(tZ c).length<=2000)->
 szR n size bs f k x i=(i++(Dn size g l).map (fun c=>(tZ c).length),k+((Dn size g l).flatMap (fun c=>fZ (tZ c).length)).length,0)
 |f,g,[],k,x,i,_,_,hn,_,_=>by
  have hx:n<=x:=by simp at hn;omega
  rw[TZ hx];cases g with
  |zero=>simp[Dn]
  |succ g=>simp[Dn]
 |0,_,y :: t,_,_,_,hf,_,_,_,_=>absurd hf pI
 |_+1,0,y :: t,_,_,_,_,hg,_,_,_=>absurd hg pI
 |f+1,g+1,y :: t,k,x,i,hf,hg,hn,h,hb=>by rw[Dn,Ab pI]at h hb ⊢;rw[Ct,AJ]at h;obtain⟨i1,i2,i3⟩:=GT (most:=2000) h (hb _ CD) mz;simp only[List.length_cons]at hf hg hn;rw[szR,Ab mz,i1,i2,i3,Ab pI];rw[QX h1 f g ((y :: t).drop size) _ (x+size) _ (by rw[AU,AI];omega) (by rw[AU,AI];omega) (by rw[AU,AI];omega) (Ew h) (fun c hc=>hb c (BW _ hc))];rw[Cs,AJ,Ct,Aj,Nat.add_assoc];rfl
theorem SG{size:Nat}:∀ (f:Nat) (l c:List Str),c∈Dn size f l->(∀s∈c,s∈l)/\c.length<=size
 |0,_,c,h=>by simp[Dn]at h
 |f+1,l,c,h=>by
  rw[Dn]at h;split at h
  ·cases h
  ·rcases AQ.1 h with rfl|h
   ·exact⟨fun s hs=>C7 hs,nX⟩
   ·obtain⟨a,b⟩:=SG f _ c h;exact⟨fun s hs=>Cb (a s hs),b⟩
theorem l7{size:Nat}{l:List Str}(hm:Gl l=true)(h1:1<=size)(h2:size<=64)(rest:List Nat):FK size (Dg size l++rest)=(l,(Dg size l).length,0):=by
 have hs:=Jj hm;unfold Gl at hm;rw[BX,decide_eq_true_iff]at hm;have e0:(Dg size l++rest).drop 0=fZ l.length++((GF size l).flatMap (fun c=>fZ (tZ c).length)++((GF size l).flatMap tZ++rest)):=by unfold Dg;simp[List.append_assoc]
 obtain⟨i1,i2,i3⟩:=GT (most:=1048576) e0 hm.2 mz;have e1:=Ew e0;have hz:=QX (n:=l.length) h1 l.length l.length l _ 0 [] (Aq _) (Aq _) rfl e1 (fun c hc=>by obtain⟨a,b⟩:=SG _ _ _ hc;have:=LY (l:=c) (fun s hs'=>(hs s (a s hs')).2);omega);have hS:Gz size (Dg size l++rest)=((GF size l).map (fun c=>(tZ c).length),0+(fZ l.length).length+((GF size l).flatMap (fun c=>fZ (tZ c).length)).length,0):=by unfold Gz;rw[i1,i2,i3,Ab pI,hz];rfl
 have hk:=Vs h1 l.length l _ [] (Aq _) (Ew e1) hm.1;unfold FK;rw[hS,Ab pI,i1];simp only;have hk:bkR size (Dg size l++rest) ((GF size l).map fun c=>(tZ c).length) l.length (0+(fZ l.length).length+((GF size l).flatMap (fun c=>fZ (tZ c).length)).length) []=_:=hk;rw[hk];refine Prod.ext (FA _) (Prod.ext ?_ rfl);show _=(Dg size l).length;unfold Dg;simp only[List.length_append];show _+((GF size l).flatMap tZ).length=_;omega
end Idx
namespace Ef
open Huff NumPut Nums Go.Proofs.YtfgdoknipbpfhaaGreatDoor.One
theorem jD{b:List Nat}(h:i<8*a.length):bit (Bq (a++b)) i=bit (Bq a) i:=by rw[MZ nz,MZ h];simp only[List.getD_eq_getElem?_getD];rw[G1 mz]
theorem SA{a b:List Bool}(i:Nat):∀m,(∀j,j<m->bit a (i+j)=bit b (i+j))->zZ a i m=zZ b i m
 |0,_=>rfl
 |m+1,h=>by rw[zZ,zZ,SA i m (fun j hj=>h j mz),h m mz]
theorem Sq{a:List Bool}(i:Nat):∀m,(∀j,j<m->bit a (i+j)=0)->zZ a i m=0
 |0,_=>rfl
 |m+1,h=>by rw[zZ,Sq i m (fun j hj=>h j mz),h m mz]
theorem mO(pre post:List Bool){x:List Bool}(h:j<x.length):bit (pre++(x++post)) (pre.length+j)=bit x j:=by unfold bit;simp only[List.getD_eq_getElem?_getD];rw[I4 mz,I2,G1 h]
theorem lQ(h:j<d):bit (unary d) j=0:=by unfold bit unary;rw[Ar,G1 p5,List.getElem?_replicate,Ae h];rfl
theorem Xi(d:Nat):bit (unary d) d=1:=by unfold bit unary;rw[Ar,I4 pI];simp
theorem Vo{bs:List Bool}:∀ (d k f:Nat),(∀j,j<d->bit bs (k+j)=0)->bit bs (k+d)=1->d<f->unC bs k f=d
 |_,_,0,_,_,h=>absurd h mz
 |0,k,f+1,_,h1,_=>by rw[Bj]at h1;rw[unC,Ae h1]
 |d+1,k,f+1,h0,h1,hf=>by have h:=h0 0 mz;rw[Bj]at h;rw[unC,Ab (by rw[h];decide),Vo d (k+1) f (fun j hj=>by have:=h0 (j+1) mz;rwa [show k+1+j=k+(j+1) by omega]) (by rwa [show k+1+d=k+(d+1) by omega]) mz]
theorem fI{bs:List Bool}(h0:∀j,j<d->bit bs (k+j)=0)(h1:bit bs (k+d)=1)(hl:k+d<bs.length):unV bs k=d/\Huff.unE bs k=0/\unA bs k=k+d+1:=by have hd:unD bs k=d:=Vo d k _ h0 h1 mz;unfold unV Huff.unE unA;rw[hd,Ae hl,Ae hl,Ae hl];exact⟨rfl,rfl,rfl⟩
theorem Vj{bound W:Nat}{R B:List Bool}(hb:∀i,i<B.length->bit R i=bit B i)(hl:B.length<=R.length):∀ (G:List Nat) (pre:List Bool) (h:Nat) (E:List Nat),B=pre++Es h (G.map (·/ 2 ^ W))->(∀x∈G,x<bound)->G.Pairwise (·< ·)->(∀x∈G,h<=x / 2 ^ W)->(∀y,E.getLast?=some y->∀x∈G,y<x)->
 rowN bound W R (G.map (·% 2 ^ W)) pre.length h E=(E++G,B.length,0)
 | [],pre,h,E,e,_,_,_,_=>by
  have e:B=pre:=by rw[e];simp[Es]
  subst e;simp[rowN]
 |x :: t,pre,h,E,e,h1,h2,h3,h4=>by
  have hx:=h3 x CD;rw[Fz]at h2;rw[Cs,Es]at e;have M:=AE List.length e;rw[Aj,Aj,JH]at M;have J:∀j,j<x / 2 ^ W-h+1->bit R (pre.length+j)=bit (unary (x / 2 ^ W-h)) j:=fun j hj=>by rw[hb _ mz,e,mO _ _ (by rw[JH];exact hj)]
  obtain⟨u1,u2,u3⟩:=fI (bs:=R) (k:=pre.length) (d:=x / 2 ^ W-h) (fun j hj=>by rw[J j mz,lQ hj]) (by rw[J _ mz,Xi]) mz;have hh:h+(x / 2 ^ W-h)=x / 2 ^ W:=mz
  have hv:x / 2 ^ W*2 ^ W+x % 2 ^ W=x:=by rw[Nat.mul_comm];exact Nat.div_add_mod x (2 ^ W)
  rw[Cs,rowN,u1,u2,u3,hh,hv,Ab pI,Ab,Ab (by have:=h1 x CD;omega)]
  ·have ih:=Vj hb hl t (pre++unary (x / 2 ^ W-h)) (x / 2 ^ W) (E++ [x]) (by rw[AJ];exact e) (fun y hy=>h1 y (BW _ hy)) h2.2 (fun y hy=>Nat.div_le_div_right (Nat.le_of_lt (h2.1 y hy))) (fun y hy z hz=>by have:x=y:=(by simpa using hy);subst this;exact h2.1 z hz);rw[Aj,JH,<-Nat.add_assoc]at ih;rw[ih,AJ];rfl
  ·rintro⟨ha,hc⟩;cases hz:E.getLast? with
   |none=>exact ha (List.getLast?_eq_none_iff.1 hz)
   |some y=>have:=h4 y hz x CD;rw[hz,FU]at hc;omega
theorem Qz{W:Nat}{R B:List Bool}(hb:∀i,i<B.length->bit R i=bit B i):∀ (E:List Nat) (pre post:List Bool),B=pre++(Di W E++post)->∀ (i x:Nat),E[i]? =some x->zZ R (pre.length+i*W) W=x % 2 ^ W
 | [],_,_,_,i,x,hx=>pK
 |y :: t,pre,post,e,i,x,hx=>by
  have e1:B=pre++(msb (y % 2 ^ W) W W++(Di W t++post)):=by rw[e];unfold Di;rw[Ct,AJ]
  have z:=AE List.length e1;rw[Aj,Aj,pZ]at z;cases i with
  |zero=>
   obtain rfl:y=x:=by simpa using hx
   have h:=L3 (y % 2 ^ W) W (Nat.mod_lt _ (FV W)) B pre (Di W t++post) (by rw[e1,AJ]) W (Aq _);rw[Gn,Nat.pow_zero,Nat.div_one]at h;rw[Nat.zero_mul,Bj,<-h];exact SA _ _ fun j hj=>hb _ mz
  |succ i=>have h:=Qz hb t (pre++msb (y % 2 ^ W) W W) post (by rw[e1,AJ]) i x (by simpa using hx);rw[Aj,pZ]at h;rw[<-h,I1];congr 1;omega
theorem j9{W:Nat}{R B:List Bool}(hb:∀i,i<B.length->bit R i=bit B i){j:List Nat}{post:List Bool}(e:B=Di W j++post):Ev W R j.length=j.map (·% 2 ^ W):=by
 apply List.ext_getElem
 ·rw[U6,Bc]
 ·intro i h1 h2;rw[Bc]at h2;have h:=Qz hb j [] post e i j[i] (AD h2);rw[De,Ck]at h;simp only[Ev,List.getElem_map,List.getElem_range];exact h
theorem kR{h:List Nat}(hb:bound<=20000)(hm:Ca bound none h=true)(h0:h≠ [])(rest:List Nat):efR bound (efO bound h++rest)=(h,(efO bound h).length,0):=by
 have hs:=Idx.Pp hm h0;have J:=Ha bound h none hm
 have hp:h.Pairwise (·< ·):=by
  rw[List.pairwise_iff_getElem];have hr:=ND bound h none hm;intro i j hi hj M;obtain⟨d,rfl⟩:∃d,j=i+1+d:=⟨j-(i+1),mz⟩;clear M
  induction d with
  |zero=>exact hr i _ _ (AD hi) (AD hj)
  |succ d ih=>exact Nat.lt_trans (ih mz) (hr (i+1+d) _ _ (AD mz) (AD hj))
 have hO:efO bound h=fZ h.length++bytesOf (Fs (efW bound h.length) h):=Ab h0;generalize hW:efW bound h.length=W at hO;have hB:Fs W h=Di W h++Es 0 (h.map (·/ 2 ^ W)):=rfl;obtain⟨B,Q⟩:=ii (Fs W h);rw[<-Q]at hO hB;have e0:(efO bound h++rest).drop 0=fZ h.length++(bytesOf B++rest):=by rw[hO,AJ];rfl
 obtain⟨i1,i2,i3⟩:=GT (most:=bound) e0 hs.2 mz;have e1:=Ew e0;obtain⟨R,hR⟩:=ii (Bq (bytesOf B++rest));have U:R.length=8*((B.length+7) / 8)+8*rest.length:=by rw[hR,EC,Aj,bytesOf_length];omega
 have G:∀i,i<8*((B.length+7) / 8)->bit R i=bit B i:=fun i hi=>by rw[hR,jD (by rw[bytesOf_length];exact hi),QB]
 have z:∀i,i<B.length->bit R i=bit B i:=fun i hi=>G i mz;have E:=Hk W h;have N:=AE List.length hB;rw[Aj,E]at N;have hL:=j9 z hB;have hN:=Vj (bound:=bound) (W:=W) z mz h (Di W h) 0 [] hB J hp (fun x _=>Cr _) (fun y hy=>by simp at hy);rw[E,FA]at hN;have hP:zZ R B.length (G6 B.length)=0:=Sq _ _ fun j hj=>by unfold G6 at hj;rw[G _ mz];exact Fw mz
 have hF:G5 bound h.length R=(h,(B.length+7) / 8,0):=by unfold G5;rw[hW,hL,hN,Ab mz,Ab pI,hP,Ab pI]
 unfold efR;rw[i1,i2,i3,Ab pI,Ab mz,e1,<-hR,hF];unfold efG;rw[Ab pI];refine Prod.ext rfl (Prod.ext ?_ rfl);rw[hO,Aj,bytesOf_length];simp only;omega
end Ef
namespace Idx
open NumPut Nums Go.Proofs.YtfgdoknipbpfhaaGreatDoor.One Ef
theorem QK{bound:Nat}{bs:List Nat}(hb:bound<=20000):∀ (L:List (List Nat)) (k:Nat) (j:List (List Nat)),bs.drop k=Dl bound L->G4 bound L=true->(∀x∈L,x≠ [])->lsR bound bs L.length k j=(j++L,0)
 | [],k,j,h,_,_=>by
  have:¬k<bs.length:=fun hk=>by have:=AE List.length h;rw[AU]at this;simp[Dl]at this;omega
  rw[De,lsR,Ab this,Ce]
 |x :: L,k,j,h,hm,h0=>by
  have i:=hm;unfold G4 at i;rw[List.all_cons,BX]at i;have h:bs.drop k=efO bound x++Dl bound L:=by rw[h];unfold Dl;rw[Ct]
  have hx:=h0 x CD;rw[AI,lsR,h,kR hb i.1 hx,Ab pI,Ab (by simpa using hx)];simp only;rw[QK hb L _ _ (Ew h) i.2 (fun y hy=>h0 y (BW _ hy)),AJ];rfl
theorem Qn{size:Nat}{ts:List Str}{L:List (List Nat)}(hb:bound<=20000)(h1:1<=size)(h2:size<=64)(hd:Gl ts=true)(hl:ts.length=L.length)(hm:G4 bound L=true)(h0:∀x∈L,x≠ []):ixR size bound (ixO size bound ts L)=((ts,L),0):=by unfold ixR ixO;rw[l7 hd h1 h2,Ab pI];simp only;rw[List.drop_left,hl,QK (bs:=Dl bound L) hb L 0 [] rfl hm h0];unfold ixF;rw[Ab pI];rfl
end Idx
namespace Body
open Go.RowKit Mem Own Canon Nums Crc Recs Opts
open Block (opE opO opA)
def DH(T L:List Nat):Nat->List Rec->List Rec
 |_,[]=> []
 |a,r :: rs=>⟨(T.getD a 0:Nat),(L.getD a 0:Nat),r.source,r.text⟩ :: DH T L (a+1) rs
theorem KJ(T L:List Nat):∀ (a:Nat) (R:List Rec),(DH T L a R).length=R.length
 |_,[]=>rfl
 |a,r :: rs=>by rw[DH,AI,AI,KJ]
theorem Sb(T L:List Nat):∀ (a:Nat) (R S:List Rec),DH T L a (R++S)=DH T L a R++DH T L (a+R.length) S
 |_,[],_=>by simp[DH]
 |a,r :: rs,S=>by rw[Ec,DH,DH,Sb,Ec,AI,show a+1+rs.length=a+(rs.length+1) by omega]
def Fh(T L:List Nat)(a:Nat)(R:List Rec)(i:Nat):List Rec:=DH T L a (R.take i)++R.drop i
theorem jI(T L:List Nat)(a:Nat)(R:List Rec):Fh T L a R 0=R:=by simp[Fh,DH]
theorem iN(T L:List Nat)(a:Nat)(R:List Rec):Fh T L a R R.length=DH T L a R:=by simp[Fh]
theorem gP(T L:List Nat)(a:Nat)(R:List Rec)(i:Nat):(Fh T L a R i).length=R.length:=by unfold Fh;rw[Aj,KJ,Bd,AU];omega
theorem U9:∀ (l:List Rec),(Ci l).length=l.length*4
 | []=>rfl
 |r :: l=>by show(_ :: _ :: _ :: _ :: Ci l).length=_;simp[U9 l];omega
theorem US{l m:List Value}(h:l.length=k)(j:Nat)(u:Value):(l++m).set (k+j) u=l++m.set j u:=by subst h;rw[List.set_append_right _ _ mz,I2]
theorem gW{a:Nat}{R:List Rec}(h:i<R.length):((Ci (Fh T L a R i)).set (i*4) (.int .u64 (T.getD (a+i) 0:Nat))).set (i*4+1) (.int .u8 (L.getD (a+i) 0:Nat))=Ci (Fh T L a R (i+1)):=by
 have h1:R.drop i=R[i] :: R.drop (i+1):=Df h;have h2:R.take (i+1)=R.take i++ [R[i]]:=by rw[List.take_append_getElem]
 have h3:(R.take i).length=i:=nX
 have hp:(Ci (DH T L a (R.take i))).length=i*4:=by rw[U9,KJ,h3]
 unfold Fh;rw[LO,LO,h1,h2,Sb,h3,LO];have h4:Ci (R[i] :: R.drop (i+1))= [.int .u64 R[i].time, .int .u8 R[i].level, .string R[i].source, .string R[i].text]++Ci (R.drop (i+1)):=rfl;have h5:Ci (DH T L (a+i) [R[i]])= [.int .u64 (T.getD (a+i) 0:Nat), .int .u8 (L.getD (a+i) 0:Nat), .string R[i].source, .string R[i].text]:=rfl;rw[h4,h5,show ∀m u,(Ci (DH T L a (R.take i))++m).set (i*4) u=Ci (DH T L a (R.take i))++m.set 0 u from fun m u=>US hp 0 u,US hp];simp
def Eh(C:List Nat)(F:List (List Nat))(k:Nat):Int:=
 if opE (F.getD k [])≠0 then opE (F.getD k [])else if opA (F.getD k [])<(F.getD k []).length then 2 else
 if(Gd (opO (F.getD k []))).2≠0 then(Gd (opO (F.getD k []))).2 else if(Gd (opO (F.getD k []))).1.length≠C.getD k 0 then 2 else 0
def FL(C T L:List Nat)(F:List (List Nat))(k:Nat):List Rec:=if Eh C F k=0 then DH T L (C.take k).sum (Gd (opO (F.getD k []))).1 else []
def LN(C T L:List Nat)(F:List (List Nat))(k:Nat)(w:World)(e:Ending)(w':World):Prop:=
 ∃v,e= .returned (.tuple #[v, .int .i64 (Eh C F k)])/\w'.ownsRow w 43 4 v (FL C T L F k).length (Ci (FL C T L F k))/\Below w w w'
theorem LI{F:List (List Nat)}{w':World}{er:Int}(hE:Eh C F k=er)(h:er≠0)(hb:Below w w w'):LN C T L F k w (.returned (.tuple #[(),er])) w':=by subst hE;refine⟨_,rfl,?_,hb⟩;rw[show FL C T L F k= [] from Ab h];exact AK _ _ _ _
theorem i7(k:Nat):(C.take k).sum+C.getD k 0<=C.sum:=by
 rcases Nat.lt_or_ge k C.length with h|h
 ·have h1:C=C.take k++C[k] :: C.drop (k+1):=by rw[<-Df h,EM]
  have h2:C.getD k 0=C[k]:=by rw[Ar,AD h];rfl
  have h3:C.sum=(C.take k).sum+(C[k]+(C.drop (k+1)).sum):=by
   conv=>lhs;rw[h1]
   rw[NH,GI]
  omega
 ·rw[BV h,Ar,Fp h];simp
end Body
namespace Idx
open Go.RowKit Mem Own Canon Sift
open NumPut Recs
open Go.Proofs.YtfgdoknipbpfhaaGreatDoor.Open
open Huff (MK)
theorem own_ints{base n c:Nat}{A:Option Addr}{y:List Nat}(h:w.ownsRow base 3 1 (.slice A n c) n (cZ .i64 y))(hn:y.length=n):Row w w A n 1 (Hq .i64 (y.map Int.ofNat)):=
 Row.of_own h rfl fun i j hi hj=>by
  obtain rfl:j=0:=mz
  unfold cZ;rw[CG,Bj,BE,AD mz];unfold Hq;rw[Ar,BE,AD mz];rfl
end Idx
end Go.Proofs.YtfgdoknipbpfhaaGreatDoor
