/- All records of a bod -/
import Derived.Test.YtfgdoknipbpfhaaGreatDoorZTwoBack33
import Derived.Test.YtfgdoknipbpfhaaGreatDoorZTwoBack41
namespace Go.Proofs.YtfgdoknipbpfhaaGreatDoor
open Go.Proofs.Tryz
open Go.Lib (hid)
open Go.RowKit
set_option maxHeartbeats 1000000
set_option maxRecDepth 100000
section
variable{bound d i j k n x:Nat}{C L T a:List Nat}{w:World}
theorem GY{bs rest:List Nat}{most:Nat}(h:bs.drop k=fZ x++rest)(hx:x<=most)(hm:most<=1000000000):AV most bs k 0=x/\uZ most bs k 0=k+(fZ x).length/\wZ most bs k 0=0:=by unfold AV uZ wZ;rw[h,QX hx hm];simp
theorem X4{bs rest:List Nat}(h:bs.drop k=fZ x++rest)(hx:x<18446744073709551616):Dw bs k 0=x/\Ep bs k 0=k+(fZ x).length/\Ex bs k 0=0:=by unfold Dw Ep Ex;rw[h,L3 hx];simp
theorem We{bs rest:List Nat}(h:bs.drop k=x :: rest):Er bs k 0=x/\takeA bs k 0 1=k+1/\Bq bs k 0 1=0/\bs.drop (k+1)=rest:=by
 have hl:1<=bs.length-k:=by have:=Aw List.length h;rw[AQ,AD]at this;omega
 have hb:bs.getD k 0=x:=by
  have:(bs.drop k)[0]? =some x:=qy
  rw[Iy,Bt]at this;rw[Aq,this];rfl
 unfold Er takeA Bq;refine⟨by rw[Aa rX,hb],oq,oq,?_⟩;rw[<-List.drop_drop,h];rfl
theorem QP{bs rest:List Nat}(h:bs.drop k=a++rest):Bj bs k 0 a.length=a/\takeA bs k 0 a.length=k+a.length/\Bq bs k 0 a.length=0:=by
 have hl:a.length<=bs.length-k:=by have:=Aw List.length h;rw[AQ,Ag]at this;omega
 unfold Bj takeA Bq;refine⟨by rw[Aa rX,Aa nj,h,List.take_left],oq,oq⟩
theorem nI(h:d<18446744073709551616):Hs (GT d)=d:=by unfold Hs GT;split<;>split<;>omega
theorem Uk{bs rest:List Nat}:∀ (ts:List Nat) (at_ i:Nat) (j:List Nat),bs.drop at_=Cx stepT i ts++rest->i<18446744073709551616->(∀t∈ts,t<18446744073709551616)->EC ts.length bs at_ i j=(j++ts,at_+(Cx stepT i ts).length,0)
 | [],at_,i,j,_,_,_=>by simp[EC,Cx]
 |t :: ts,at_,i,j,h,hw,ht=>by
  have h0:=ht t CP;rw[Cx,AE]at h;have h:bs.drop at_=fZ (GT (Je t i))++(Cx stepT t ts++rest):=h;obtain⟨e1,e2,e3⟩:=X4 h (L6 (Om _ _));have ev:(i+Hs (GT (Je t i))) % 18446744073709551616=t:=by rw[nI (Om _ _)];unfold Je;omega
  rw[AD,EC,e1,e2,e3,Aa rX,ev,Uk ts _ t _ (CW h) h0 (fun x hx=>ht x (Cn _ hx)),Cx,Ag];simp[stepT,Nat.add_assoc]
theorem UW(x:Nat):∀l:List Nat,l.take (lead x l)=List.replicate (lead x l) x
 | []=>by simp[lead]
 |y :: t=>by
  rw[lead];split
  ·rename_i h;rw[List.take_succ_cons,UW x t,List.replicate_succ,h]
  ·simp
theorem UG(x:Nat):∀l:List Nat,(l.drop (lead x l)).head?≠some x
 | []=>by simp[lead]
 |y :: t=>by
  rw[lead];split
  ·rw[List.drop_succ_cons];exact UG x t
  ·rename_i h;simpa using h
theorem TV{bs rest:List Nat}{n:Nat}(hn:n<=1000000000):∀ (f:Nat) (l:List Nat) (at_:Nat) (i:List Nat),l.length<=f->i.length+l.length=n->bs.drop at_=lvB l++rest->(∀x,l.head?=some x->i.getLast?≠some x)->EF f n bs at_ i=(i++l,at_+(lvB l).length,0)
 |f,[],at_,i,_,hs,_,_=>by rw[Uy (by simp at hs;omega),lvB];simp
 |f+1,x :: t,at_,i,hf,hs,h,hx=>by
  have hl:=Qj x t;simp only[List.length_cons]at hf hs;rw[lvB,Ez,AE]at h;obtain⟨b1,b2,b3,b4⟩:=We h;obtain⟨i1,i2,i3⟩:=GY (most:=n-i.length) b4 nj nj;have ho:Hb (n-i.length) bs at_=(x,lead x t+1,at_+1+(fZ (lead x t+1)).length,0):=by unfold Hb;rw[b1,b2,b3,i1,i2,i3]
  have he:Kt i (x,lead x t+1,at_+1+(fZ (lead x t+1)).length,0)=0:=by
   unfold Kt;rw[Aa rX,Aa];rintro(h0|h0)
   ·simp at h0
   ·exact hx x rfl h0
  rw[EF,Aa nj,ho,he,Aa rX];simp only;rw[TV hn f (t.drop (lead x t)) _ (i++List.replicate (lead x t+1) x) nz (by rw[Ag,Dv,AQ];omega) (CW b4) (fun y hy=>by rw[List.getLast?_append,List.getLast?_replicate,Aa nj];intro e;have:x=y:=(by simpa using e);subst this;exact UG _ _ hy)];rw[lvB,AE];refine Prod.ext ?_ (Prod.ext ?_ rfl)
  ·simp only;rw[List.replicate_succ,Ez,<-UW,ER]
  ·simp only[List.length_cons,List.length_append];omega
theorem Xp{l:List Rec}(h:∀r∈l,BR r):∀t∈BQ l,t<18446744073709551616:=fun t ht=>by obtain⟨r,hr,rfl⟩:=CH.1 ht;obtain⟨h1,h2,_,_⟩:=h r hr;omega
theorem aI{l:List Rec}(h:∀r∈l,BR r)(hn:l.length<=20000):By l.length (DJ l)=(BQ l,Cj l,(DJ l).length,0):=by
 have ht:=Uk (bs:=DJ l) (rest:=lvB (Cj l)) (BQ l) 0 0 [] rfl nj (Xp h);have hd:(DJ l).drop (0+(Cx stepT 0 (BQ l)).length)=lvB (Cj l)++ []:=by unfold DJ;rw[Ca,List.drop_left,Cg]
 have j:(BQ l).length=l.length:=by unfold BQ;rw[Bu]
 have i:(Cj l).length=l.length:=by unfold Cj;rw[Bu]
 have hv:=TV (n:=l.length) nj l.length (Cj l) _ [] nj sE hd (fun x _=>by simp);rw[j]at ht;unfold By;rw[ht];unfold Ha;rw[Aa rX];simp only;rw[hv];unfold Kr;rw[Aa rX];simp only[List.nil_append];refine Prod.ext rfl (Prod.ext rfl (Prod.ext ?_ rfl));unfold DJ;simp only[List.length_append];omega
theorem No(b:List Nat):BI (b++Bv (Bg b))=0/\AJ (b++Bv (Bg b))=b:=by
 have ht:(Bv (Bg b)).length=4:=rfl;have hl:(b++Bv (Bg b)).length-4=b.length:=pf
 have h4:4<=(b++Bv (Bg b)).length:=pf
 have hC:BI (b++Bv (Bg b))=0:=by unfold BI;rw[Aa nj,hl,List.take_left,List.drop_left,Ab rfl]
 exact⟨hC,by unfold AJ;rw[Ab hC,hl,List.take_left]⟩
theorem Wh(s:Str):toS (Is s)=s:=by
 unfold toS Is;rw[List.map_map]
 conv=>rhs;rw[<-List.map_id s]
 exact J1 fun x _=>rX
theorem Uu{bs rest:List Nat}{s:Str}(h:bs.drop k=Dy s++rest)(hs:s.length<=25):DV 25 bs k 0=Is s/\Df 25 bs k 0=k+(Dy s).length/\De 25 bs k 0=0:=by
 have hl:(Is s).length=s.length:=by unfold Is;rw[Bu]
 have hp:Cv 25 (bs.drop k)=(Is s,(Dy s).length,0):=by rw[h];unfold Cv Dy;rw[AE,QX hs nj];simp only[List.length_append,hl,List.drop_left];rw[Aa rX,Aa nj,<-hl,List.take_left]
 unfold DV Df De;rw[hp];simp
theorem T9:∀a b:Str,a.take (BF a b)=b.take (BF a b)
 | [],b=>by simp[BF]
 |a :: s,[]=>by simp[BF]
 |a :: s,b :: t=>by
  rw[BF];split
  ·rename_i h;rw[List.take_succ_cons,List.take_succ_cons,T9 s t,h]
  ·simp
theorem V4:∀ {a b:Str},a<b->BF a b<b.length
 | [],[],h=>absurd h (I2 _)
 | [],b :: t,_=>by simp[BF]
 |a :: s,[],h=>absurd h rX
 |a :: s,b :: t,h=>by
  rw[BF];split
  ·rename_i e;subst e;rw[List.cons_lt_cons_iff]at h;rcases h with h|h
   ·exact absurd h (UInt8.lt_irrefl _)
   ·have:=V4 h.2;rw[AD];omega
  ·simp
theorem Mm{i x:Str}(h:EL i x=true):1<=x.length/\x.length<=25/\i<x:=by unfold EL at h;rw[Cp,Cp,decide_eq_true_iff,decide_eq_true_iff,decide_eq_true_iff]at h;exact h
theorem iJ{bs rest:List Nat}{i x:Str}(h:bs.drop k=Dy x++rest)(hm:EL i x=true):Fg bs i true k=(x,k+(Dy x).length,0):=by
 obtain⟨m1,m2,m3⟩:=Mm hm;obtain⟨e1,e2,e3⟩:=Uu h m2;unfold Fg nxN nxA nxE;simp only[if_true];rw[e1,e2,e3,Wh];unfold nxS;rw[Aa rX,List.take_zero,FY,Aa];rintro(h0|h0|h0)
 ·rw[h0]at m1;simp at m1
 ·rw[hm]at h0;cases h0
 ·cases h0.1
theorem ZZ{bs rest:List Nat}{i x:Str}(h:bs.drop k=fZ (BF i x)++(Dy (x.drop (BF i x))++rest))(hw:i.length<=25)(hm:EL i x=true):Fg bs i false k=(x,k+(fZ (BF i x)).length+(Dy (x.drop (BF i x))).length,0):=by
 obtain⟨m1,m2,m3⟩:=Mm hm;have ha:=Lf i x;have j:=V4 m3;obtain⟨i1,i2,i3⟩:=GY (most:=i.length) h ha.1 nj;obtain⟨e1,e2,e3⟩:=Uu (CW h) nz;unfold Fg nxN nxA nxE;simp only[Bool.false_eq_true,if_false];rw[i1,i2,i3,e1,e2,e3,Wh];unfold nxS;rw[T9,ER,Aa rX,Aa];rintro(h0|h0|h0)
 ·have:=Aw List.length h0;rw[AQ,Dg]at this;omega
 ·rw[hm]at h0;cases h0
 ·exact h0.2 rfl
theorem Uh{bs:List Nat}:∀ (t:List Str) (j:Str) (k:Nat) (i:List Str),i.getLast?.getD []=j->j.length<=25->bs.drop k=EM j t->k<=bs.length->Dx j t=true->Dp bs t.length false k i=(i++t,0)
 | [],j,k,i,_,_,h,_,_=>by
  have:¬k<bs.length:=fun hk=>by have:=Aw List.length h;rw[AQ,EM,Dg]at this;omega
  show(i,Hh bs k 0)=_;unfold Hh;rw[Aa this,Cg]
 |x :: t,j,k,i,ha,hw,h,hk,hr=>by rw[Dx,Cp]at hr;obtain⟨m1,m2,m3⟩:=Mm hr.1;rw[EM,AE]at h;have hn:=ZZ h hw hr.1;have h2:=CW (CW h);have hl:=Aw List.length h;simp only[List.length_drop,List.length_append]at hl;rw[AD,Dp,ha,hn,Aa rX];simp only;rw[Uh t x _ (i++ [x]) rX m2 h2 nj hr.2,AE];rfl
theorem Xf{c h:List Str}(h0:c≠ [])(hr:Dx (h.getLast?.getD []) c=true):Dp (vZ c) c.length true 0 h=(h++c,0):=by
 cases c with
 |nil=>exact absurd rfl h0
 |cons x t=>rw[Dx,Cp]at hr;obtain⟨m1,m2,m3⟩:=Mm hr.1;have hn:=iJ (bs:=vZ (x :: t)) (k:=0) (rest:=EM x t) rfl hr.1;rw[AD,Dp,hn,Aa rX];simp only;rw[Uh t x _ (h++ [x]) rX m2 (by rw[Ca];exact List.drop_left) (by rw[vZ,Ag];omega) hr.2,AE];rfl
theorem TE:∀ (a b:List Str) (i:Str),Dx i (a++b)=true->Dx i a=true/\Dx (a.getLast?.getD i) b=true
 | [],b,i,h=>⟨rfl,h⟩
 |x :: a,b,i,h=>by
  rw[Ez,Dx,Cp]at h;obtain⟨h1,h2⟩:=TE a b x h.2;refine⟨by rw[Dx,Cp];exact⟨h.1,h1⟩,?_⟩;cases a with
  |nil=>exact h2
  |cons y s=>simpa[List.getLast?_cons]using h2
theorem rB(a b:List Str):(a++b).getLast?.getD []=b.getLast?.getD (a.getLast?.getD []):=by rw[List.getLast?_append];cases b.getLast?<;>rfl
theorem VR{bs rest:List Nat}{size:Nat}(h1:1<=size):∀ (f:Nat) (l:List Str) (k:Nat) (i:List Str),l.length<=f->bs.drop k=(Ea size f l).flatMap vZ++rest->Dx (i.getLast?.getD []) l=true->
 bkR size bs ((Ea size f l).map fun c=>(vZ c).length) l.length k i=(i++l,k+((Ea size f l).flatMap vZ).length,0)
 |0,l,k,i,hf,_,_=>by obtain rfl:l= []:=Gn nj;simp[Ea,bkR]
 |f+1,l,k,i,hf,h,hr=>by
  rw[Ea]at h ⊢;by_cases e:l= []
  ·subst e;simp[bkR]
  ·have hp:1<=l.length:=Gm.2 e;rw[Aa e]at h ⊢;rw[CD,AE]at h;obtain⟨t1,t2,t3⟩:=QP h;have hc:l.take size≠ []:=fun h0=>by have:=Aw List.length h0;rw[AY,Dg]at this;omega
   have j:=TE (l.take size) (l.drop size) _ (by rw[ER];exact hr);have hb:=Xf hc j.1;rw[AY]at hb;rw[Ct,bkR,t1,t2,t3,Aa rX,hb,Aa rX];simp only;have ih:=VR h1 f (l.drop size) (k+(vZ (l.take size)).length) (i++l.take size) nz (CW h) (by rw[rB];exact j.2);rw[AQ]at ih;rw[ih,AE,ER,CD,Ag,Nat.add_assoc]
theorem TQ{bs rest:List Nat}{size n:Nat}(h1:1<=size):∀ (f g:Nat) (l:List Str) (k x:Nat) (i:List Nat),l.length<=f->l.length<=g->l.length=n-x->bs.drop k=(Ea size g l).flatMap (fun c=>fZ (vZ c).length)++rest->(∀c∈Ea size g l,(vZ c).length<=2000)->
 szR n size bs f k x i=(i++(Ea size g l).map (fun c=>(vZ c).length),k+((Ea size g l).flatMap (fun c=>fZ (vZ c).length)).length,0)
 |f,g,[],k,x,i,_,_,hn,_,_=>by
  have hx:n<=x:=by simp at hn;omega
  rw[TX hx];cases g with
  |zero=>simp[Ea]
  |succ g=>simp[Ea]
 |0,_,y :: t,_,_,_,hf,_,_,_,_=>absurd hf rX
 |_+1,0,y :: t,_,_,_,_,hg,_,_,_=>absurd hg rX
 |f+1,g+1,y :: t,k,x,i,hf,hg,hn,h,hb=>by rw[Ea,Aa rX]at h hb ⊢;rw[CD,AE]at h;obtain⟨i1,i2,i3⟩:=GY (most:=2000) h (hb _ CP) nj;simp only[List.length_cons]at hf hg hn;rw[szR,Aa nj,i1,i2,i3,Aa rX];rw[TQ h1 f g ((y :: t).drop size) _ (x+size) _ (by rw[AQ,AD];omega) (by rw[AQ,AD];omega) (by rw[AQ,AD];omega) (CW h) (fun c hc=>hb c (Cn _ hc))];rw[Ct,AE,CD,Ag,Nat.add_assoc];rfl
theorem Wd{size:Nat}:∀ (f:Nat) (l c:List Str),c∈Ea size f l->(∀s∈c,s∈l)/\c.length<=size
 |0,_,c,h=>by simp[Ea]at h
 |f+1,l,c,h=>by
  rw[Ea]at h;split at h
  ·cases h
  ·rcases AO.1 h with rfl|h
   ·exact⟨fun s hs=>BX hs,oj⟩
   ·obtain⟨a,b⟩:=Wd f _ c h;exact⟨fun s hs=>Bz (a s hs),b⟩
theorem Zz{size:Nat}{l:List Str}(hm:GR l=true)(h1:1<=size)(h2:size<=64)(rest:List Nat):FH size (Ec size l++rest)=(l,(Ec size l).length,0):=by
 have hs:=JV hm;unfold GR at hm;rw[Cp,decide_eq_true_iff]at hm;have e0:(Ec size l++rest).drop 0=fZ l.length++((Hk size l).flatMap (fun c=>fZ (vZ c).length)++((Hk size l).flatMap vZ++rest)):=by unfold Ec;simp[List.append_assoc]
 obtain⟨i1,i2,i3⟩:=GY (most:=1048576) e0 hm.2 nj;have e1:=CW e0;have hz:=TQ (n:=l.length) h1 l.length l.length l _ 0 [] (Ak _) (Ak _) rfl e1 (fun c hc=>by obtain⟨a,b⟩:=Wd _ _ _ hc;have:=Oa (l:=c) (fun s hs'=>(hs s (a s hs')).2);omega);have hS:Hc size (Ec size l++rest)=((Hk size l).map (fun c=>(vZ c).length),0+(fZ l.length).length+((Hk size l).flatMap (fun c=>fZ (vZ c).length)).length,0):=by unfold Hc;rw[i1,i2,i3,Aa rX,hz];rfl
 have hk:=VR h1 l.length l _ [] (Ak _) (CW e1) hm.1;unfold FH;rw[hS,Aa rX,i1];simp only;have hk:bkR size (Ec size l++rest) ((Hk size l).map fun c=>(vZ c).length) l.length (0+(fZ l.length).length+((Hk size l).flatMap (fun c=>fZ (vZ c).length)).length) []=_:=hk;rw[hk];refine Prod.ext (FY _) (Prod.ext ?_ rfl);show _=(Ec size l).length;unfold Ec;simp only[List.length_append];show _+((Hk size l).flatMap vZ).length=_;omega
theorem qD{b:List Nat}(h:i<8*a.length):bit (BH (a++b)) i=bit (BH a) i:=by rw[Md pf,Md h];simp only[List.getD_eq_getElem?_getD];rw[Ic nj]
theorem T6{a b:List Bool}(i:Nat):∀m,(∀j,j<m->bit a (i+j)=bit b (i+j))->AK a i m=AK b i m
 |0,_=>rfl
 |m+1,h=>by rw[AK,AK,T6 i m (fun j hj=>h j nj),h m nj]
theorem TN{a:List Bool}(i:Nat):∀m,(∀j,j<m->bit a (i+j)=0)->AK a i m=0
 |0,_=>rfl
 |m+1,h=>by rw[AK,TN i m (fun j hj=>h j nj),h m nj]
theorem mP(pre post:List Bool){x:List Bool}(h:j<x.length):bit (pre++(x++post)) (pre.length+j)=bit x j:=by unfold bit;simp only[List.getD_eq_getElem?_getD];rw[JC nj,I5,Ic h]
theorem lV(h:j<d):bit (unary d) j=0:=by unfold bit unary;rw[Aq,Ic sH,List.getElem?_replicate,Ab h];rfl
theorem XI(d:Nat):bit (unary d) d=1:=by unfold bit unary;rw[Aq,JC rX];simp
theorem Sw{bs:List Bool}:∀ (d k f:Nat),(∀j,j<d->bit bs (k+j)=0)->bit bs (k+d)=1->d<f->unC bs k f=d
 |_,_,0,_,_,h=>absurd h nj
 |0,k,f+1,_,h1,_=>by rw[Bt]at h1;rw[unC,Ab h1]
 |d+1,k,f+1,h0,h1,hf=>by have h:=h0 0 nj;rw[Bt]at h;rw[unC,Aa (by rw[h];decide),Sw d (k+1) f (fun j hj=>by have:=h0 (j+1) nj;rwa [show k+1+j=k+(j+1) by omega]) (by rwa [show k+1+d=k+(d+1) by omega]) nj]
theorem fP{bs:List Bool}(h0:∀j,j<d->bit bs (k+j)=0)(h1:bit bs (k+d)=1)(hl:k+d<bs.length):unV bs k=d/\unE bs k=0/\unA bs k=k+d+1:=by have hd:unD bs k=d:=Sw d k _ h0 h1 nj;unfold unV unE unA;rw[hd,Ab hl,Ab hl,Ab hl];exact⟨rfl,rfl,rfl⟩
theorem VH{bound W:Nat}{R B:List Bool}(hb:∀i,i<B.length->bit R i=bit B i)(hl:B.length<=R.length):∀ (E:List Nat) (pre:List Bool) (h:Nat) (G:List Nat),B=pre++EE h (E.map (·/ 2 ^ W))->(∀x∈E,x<bound)->E.Pairwise (·< ·)->(∀x∈E,h<=x / 2 ^ W)->(∀y,G.getLast?=some y->∀x∈E,y<x)->
 Ae2 bound W R (E.map (·% 2 ^ W)) pre.length h G=(G++E,B.length,0)
 | [],pre,h,G,e,_,_,_,_=>by
  have e:B=pre:=by rw[e];simp[EE]
  subst e;simp[Ae2]
 |x :: t,pre,h,G,e,h1,h2,h3,h4=>by
  have hx:=h3 x CP;rw[Gk]at h2;rw[Ct,EE]at e;have L:=Aw List.length e;rw[Ag,Ag,Kb]at L;have J:∀j,j<x / 2 ^ W-h+1->bit R (pre.length+j)=bit (unary (x / 2 ^ W-h)) j:=fun j hj=>by rw[hb _ nj,e,mP _ _ (by rw[Kb];exact hj)]
  obtain⟨u1,u2,u3⟩:=fP (bs:=R) (k:=pre.length) (d:=x / 2 ^ W-h) (fun j hj=>by rw[J j nj,lV hj]) (by rw[J _ nj,XI]) nj;have hh:h+(x / 2 ^ W-h)=x / 2 ^ W:=nj
  have hv:x / 2 ^ W*2 ^ W+x % 2 ^ W=x:=by rw[Nat.mul_comm];exact Nat.div_add_mod x (2 ^ W)
  rw[Ct,Ae2,u1,u2,u3,hh,hv,Aa rX,Aa,Aa (by have:=h1 x CP;omega)]
  ·have ih:=VH hb hl t (pre++unary (x / 2 ^ W-h)) (x / 2 ^ W) (G++ [x]) (by rw[AE];exact e) (fun y hy=>h1 y (Cn _ hy)) h2.2 (fun y hy=>Nat.div_le_div_right (Nat.le_of_lt (h2.1 y hy))) (fun y hy z hz=>by have:x=y:=(by simpa using hy);subst this;exact h2.1 z hz);rw[Ag,Kb,<-Nat.add_assoc]at ih;rw[ih,AE];rfl
  ·rintro⟨ha,hc⟩;cases hz:G.getLast? with
   |none=>exact ha (List.getLast?_eq_none_iff.1 hz)
   |some y=>have:=h4 y hz x CP;rw[hz,Gz]at hc;omega
theorem V2{W:Nat}{R B:List Bool}(hb:∀i,i<B.length->bit R i=bit B i):∀ (E:List Nat) (pre post:List Bool),B=pre++(Ed W E++post)->∀ (i x:Nat),E[i]? =some x->AK R (pre.length+i*W) W=x % 2 ^ W
 | [],_,_,_,i,x,hx=>r9
 |y :: t,pre,post,e,i,x,hx=>by
  have e1:B=pre++(msb (y % 2 ^ W) W W++(Ed W t++post)):=by rw[e];unfold Ed;rw[CD,AE]
  have z:=Aw List.length e1;rw[Ag,Ag,tZ]at z;cases i with
  |zero=>
   obtain rfl:y=x:=by simpa using hx
   have h:=NS (y % 2 ^ W) W (Nat.mod_lt _ (GA W)) B pre (Ed W t++post) (by rw[e1,AE]) W (Ak _);rw[G0,Nat.pow_zero,Nat.div_one]at h;rw[Nat.zero_mul,Bt,<-h];exact T6 _ _ fun j hj=>hb _ nj
  |succ i=>have h:=V2 hb t (pre++msb (y % 2 ^ W) W W) post (by rw[e1,AE]) i x (by simpa using hx);rw[Ag,tZ]at h;rw[<-h,JB];congr 1;omega
theorem YR{W:Nat}{R B:List Bool}(hb:∀i,i<B.length->bit R i=bit B i){j:List Nat}{post:List Bool}(e:B=Ed W j++post):EK W R j.length=j.map (·% 2 ^ W):=by
 apply List.ext_getElem
 ·rw[Pj,Bu]
 ·intro i h1 h2;rw[Bu]at h2;have h:=V2 hb j [] post e i j[i] (Az h2);rw[Dg,Ca]at h;simp only[EK,List.getElem_map,List.getElem_range];exact h
theorem lB{h:List Nat}(hb:bound<=20000)(hm:Cu bound none h=true)(h0:h≠ [])(rest:List Nat):efR bound (efO bound h++rest)=(h,(efO bound h).length,0):=by
 have hs:=Oz hm h0;have L:=Ii bound h none hm
 have hp:h.Pairwise (·< ·):=by
  rw[List.pairwise_iff_getElem];have hr:=Mz bound h none hm;intro i j hi hj N;obtain⟨d,rfl⟩:∃d,j=i+1+d:=⟨j-(i+1),nj⟩;clear N
  induction d with
  |zero=>exact hr i _ _ (Az hi) (Az hj)
  |succ d ih=>exact Nat.lt_trans (ih nj) (hr (i+1+d) _ _ (Az nj) (Az hj))
 have hO:efO bound h=fZ h.length++bytesOf (Gf (efW bound h.length) h):=Aa h0;generalize hW:efW bound h.length=W at hO;have hB:Gf W h=Ed W h++EE 0 (h.map (·/ 2 ^ W)):=rfl;obtain⟨B,J⟩:=ii (Gf W h);rw[<-J]at hO hB;have e0:(efO bound h++rest).drop 0=fZ h.length++(bytesOf B++rest):=by rw[hO,AE];rfl
 obtain⟨i1,i2,i3⟩:=GY (most:=bound) e0 hs.2 nj;have e1:=CW e0;obtain⟨R,hR⟩:=ii (BH (bytesOf B++rest));have Q:R.length=8*((B.length+7) / 8)+8*rest.length:=by rw[hR,Fi,Ag,bytesOf_length];omega
 have G:∀i,i<8*((B.length+7) / 8)->bit R i=bit B i:=fun i hi=>by rw[hR,qD (by rw[bytesOf_length];exact hi),VG]
 have z:∀i,i<B.length->bit R i=bit B i:=fun i hi=>G i nj;have E:=Iq W h;have M:=Aw List.length hB;rw[Ag,E]at M;have hL:=YR z hB;have Aj1:=VH (bound:=bound) (W:=W) z nj h (Ed W h) 0 [] hB L hp (fun x _=>Bf _) (fun y hy=>by simp at hy);rw[E,FY]at Aj1;have Ai3:AK R B.length (Ir B.length)=0:=TN _ _ fun j hj=>by unfold Ir at hj;rw[G _ nj];exact Gh nj
 have hF:GP bound h.length R=(h,(B.length+7) / 8,0):=by unfold GP;rw[hW,hL,Aj1,Aa nj,Aa rX,Ai3,Aa rX]
 unfold efR;rw[i1,i2,i3,Aa rX,Aa nj,e1,<-hR,hF];unfold efG;rw[Aa rX];refine Prod.ext rfl (Prod.ext ?_ rfl);rw[hO,Ag,bytesOf_length];simp only;omega
theorem TB{bound:Nat}{bs:List Nat}(hb:bound<=20000):∀ (L:List (List Nat)) (k:Nat) (j:List (List Nat)),bs.drop k=DY bound L->Iv bound L=true->(∀x∈L,x≠ [])->lsR bound bs L.length k j=(j++L,0)
 | [],k,j,h,_,_=>by
  have:¬k<bs.length:=fun hk=>by have:=Aw List.length h;rw[AQ]at this;simp[DY]at this;omega
  rw[Dg,lsR,Aa this,Cg]
 |x :: L,k,j,h,hm,h0=>by
  have i:=hm;unfold Iv at i;rw[List.all_cons,Cp]at i;have h:bs.drop k=efO bound x++DY bound L:=by rw[h];unfold DY;rw[CD]
  have hx:=h0 x CP;rw[AD,lsR,h,lB hb i.1 hx,Aa rX,Aa (by simpa using hx)];simp only;rw[TB hb L _ _ (CW h) i.2 (fun y hy=>h0 y (Cn _ hy)),AE];rfl
theorem VP{size:Nat}{ts:List Str}{L:List (List Nat)}(hb:bound<=20000)(h1:1<=size)(h2:size<=64)(hd:GR ts=true)(hl:ts.length=L.length)(hm:Iv bound L=true)(h0:∀x∈L,x≠ []):Ah5 size bound (ixO size bound ts L)=((ts,L),0):=by unfold Ah5 ixO;rw[Zz hd h1 h2,Aa rX];simp only;rw[List.drop_left,hl,TB (bs:=DY bound L) hb L 0 [] rfl hm h0];unfold ixF;rw[Aa rX];rfl
open Go.RowKit
def Ev(T L:List Nat):Nat->List Rec->List Rec
 |_,[]=> []
 |a,r :: rs=>⟨(T.getD a 0:Nat),(L.getD a 0:Nat),r.source,r.text⟩ :: Ev T L (a+1) rs
theorem KY(T L:List Nat):∀ (a:Nat) (R:List Rec),(Ev T L a R).length=R.length
 |_,[]=>rfl
 |a,r :: rs=>by rw[Ev,AD,AD,KY]
theorem Ty(T L:List Nat):∀ (a:Nat) (R S:List Rec),Ev T L a (R++S)=Ev T L a R++Ev T L (a+R.length) S
 |_,[],_=>by simp[Ev]
 |a,r :: rs,S=>by rw[Ez,Ev,Ev,Ty,Ez,AD,show a+1+rs.length=a+(rs.length+1) by omega]
def FO(T L:List Nat)(a:Nat)(R:List Rec)(i:Nat):List Rec:=Ev T L a (R.take i)++R.drop i
theorem Yw(T L:List Nat)(a:Nat)(R:List Rec):FO T L a R 0=R:=by simp[FO,Ev]
theorem pF(T L:List Nat)(a:Nat)(R:List Rec):FO T L a R R.length=Ev T L a R:=by simp[FO]
theorem oI(T L:List Nat)(a:Nat)(R:List Rec)(i:Nat):(FO T L a R i).length=R.length:=by unfold FO;rw[Ag,KY,AY,AQ];omega
theorem Vu:∀ (l:List Rec),(Cs l).length=l.length*4
 | []=>rfl
 |r :: l=>by show(_ :: _ :: _ :: _ :: Cs l).length=_;simp[Vu l];omega
theorem RS{l m:List Value}(h:l.length=k)(j:Nat)(u:Value):(l++m).set (k+j) u=l++m.set j u:=by subst h;rw[List.set_append_right _ _ nj,I5]
theorem XT{a:Nat}{R:List Rec}(h:i<R.length):((Cs (FO T L a R i)).set (i*4) (.int .u64 (T.getD (a+i) 0:Nat))).set (i*4+1) (.int .u8 (L.getD (a+i) 0:Nat))=Cs (FO T L a R (i+1)):=by
 have h1:R.drop i=R[i] :: R.drop (i+1):=Dl h;have h2:R.take (i+1)=R.take i++ [R[i]]:=by rw[List.take_append_getElem]
 have h3:(R.take i).length=i:=oj
 have hp:(Cs (Ev T L a (R.take i))).length=i*4:=by rw[Vu,KY,h3]
 unfold FO;rw[Nb,Nb,h1,h2,Ty,h3,Nb];have h4:Cs (R[i] :: R.drop (i+1))= [.int .u64 R[i].time, .int .u8 R[i].level, .string R[i].source, .string R[i].text]++Cs (R.drop (i+1)):=rfl;have h5:Cs (Ev T L (a+i) [R[i]])= [.int .u64 (T.getD (a+i) 0:Nat), .int .u8 (L.getD (a+i) 0:Nat), .string R[i].source, .string R[i].text]:=rfl;rw[h4,h5,show ∀m u,(Cs (Ev T L a (R.take i))++m).set (i*4) u=Cs (Ev T L a (R.take i))++m.set 0 u from fun m u=>RS hp 0 u,RS hp];simp
def Fq(C:List Nat)(F:List (List Nat))(k:Nat):Int:=
 if opE (F.getD k [])≠0 then opE (F.getD k [])else if opA (F.getD k [])<(F.getD k []).length then 2 else
 if(GU (opO (F.getD k []))).2≠0 then(GU (opO (F.getD k []))).2 else if(GU (opO (F.getD k []))).1.length≠C.getD k 0 then 2 else 0
def GG(C T L:List Nat)(F:List (List Nat))(k:Nat):List Rec:=if Fq C F k=0 then Ev T L (C.take k).sum (GU (opO (F.getD k []))).1 else []
def QG(C T L:List Nat)(F:List (List Nat))(k:Nat)(w:World)(e:Ending)(w':World):Prop:=
 ∃v,e= .returned (.tuple #[v, .int .i64 (Fq C F k)])/\w'.ownsRow w 43 4 v (GG C T L F k).length (Cs (GG C T L F k))/\Below w w w'
theorem MT{F:List (List Nat)}{w':World}{er:Int}(hE:Fq C F k=er)(h:er≠0)(hb:Below w w w'):QG C T L F k w (.returned (.tuple #[(),er])) w':=by subst hE;refine⟨_,rfl,?_,hb⟩;rw[show GG C T L F k= [] from Aa h];exact AI _ _ _ _
theorem j7(k:Nat):(C.take k).sum+C.getD k 0<=C.sum:=by
 rcases Nat.lt_or_ge k C.length with h|h
 ·have h1:C=C.take k++C[k] :: C.drop (k+1):=by rw[<-Dl h,ER]
  have h2:C.getD k 0=C[k]:=by rw[Aq,Az h];rfl
  have h3:C.sum=(C.take k).sum+(C[k]+(C.drop (k+1)).sum):=by
   conv=>lhs;rw[h1]
   rw[Ox,GC]
  omega
 ·rw[Cf h,Aq,FN h];simp
theorem Tn{n:Nat}{bs:List Nat}(h8:∀x∈bs,x<=255):∀ (f at_:Nat) (i:List Nat),i.length<=n->n<=i.length+f->(EF f n bs at_ i).2.2=0->(EF f n bs at_ i).1.length=n
 |0,_,i,h,h2,_=>by show i.length=n;omega
 |f+1,at_,i,h,h2,h3=>by
  unfold EF at h3 ⊢;split
  ·show i.length=n;omega
  ·rename_i hl;rw[Aa hl]at h3;split
   ·rename_i he;rw[Ab he]at h3;exact absurd h3 he
   ·rename_i he;rw[Aa he]at h3;have h1:(Hb (n-i.length) bs at_).2.1<=n-i.length:=zY h8 _ _
    have h4:(Hb (n-i.length) bs at_).2.1≠0:=fun h0=>he (by
     unfold Kt;intro hx;split at hx
     ·rename_i h5;exact h5 hx
     ·rw[Ab (.inl h0)]at hx;cases hx)
    exact Tn h8 f _ _ oy oy h3
theorem nK{bs:List Nat}(h8:∀x∈bs,x<=255)(h:(By n bs).2.2.2=0):(By n bs).2.1.length=n:=by
 unfold By Kr at h ⊢;split
 ·rename_i he;rw[Ab he]at h;exact absurd h he
 ·rename_i he;have hl:(Ha n bs (EC n bs 0 0 [])).2.2=0:=G1 he;show(Ha n bs (EC n bs 0 0 [])).1.length=n;have ht:=O8 hl;unfold Ha at hl ⊢;rw[Aa (by simp[ht])]at hl ⊢;exact Tn h8 _ _ _ (Bf _) rX hl
theorem Ah1{base c:Nat}{A:Option Addr}{y:List Nat}(h:w.ownsRow base 3 1 (.slice A n c) n (dZ .i64 y))(hn:y.length=n):Row w w A n 1 (intF .i64 (y.map Int.ofNat)):=
 Row.of_own h rfl fun i j hi hj=>by
  obtain rfl:j=0:=nj
  unfold dZ;rw[CZ,Bt,Co,Az nj];unfold intF;rw[Aq,Co,Az nj];rfl
def tA0(ls:List Nat):Nat:=takeA ls 0 0 5
def tE0(ls:List Nat):Int:=Bq ls 0 0 5
def tS(ls:List Nat):Nat:=AV 32768 ls (tA0 ls) (tE0 ls)
def tA1(ls:List Nat):Nat:=uZ 32768 ls (tA0 ls) (tE0 ls)
def tE1(ls:List Nat):Int:=wZ 32768 ls (tA0 ls) (tE0 ls)
def tP(ls:List Nat):Nat:=Er ls (tA1 ls) (tE1 ls)
def tA2(ls:List Nat):Nat:=takeA ls (tA1 ls) (tE1 ls) 1
def tE2(ls:List Nat):Int:=Bq ls (tA1 ls) (tE1 ls) 1
def tF2(ls:List Nat):Int:=if 1<tP ls then ES (tE2 ls) 2 else tE2 ls
def tK(ls:List Nat):Nat:=AV 64 ls (tA2 ls) (tF2 ls)
def tA3(ls:List Nat):Nat:=uZ 64 ls (tA2 ls) (tF2 ls)
def tE3(ls:List Nat):Int:=wZ 64 ls (tA2 ls) (tF2 ls)
def tA4(ls:List Nat):Nat:=takeA ls (tA3 ls) (tE3 ls) 4
def tE4(ls:List Nat):Int:=Bq ls (tA3 ls) (tE3 ls) 4
def tO(ls:List Nat):Opt:=⟨(tS ls:Nat),decide (tP ls=1),(tK ls:Nat),0,0,0⟩
def EX(ls:List Nat):Int:=if tE4 ls≠0 then tE4 ls else if BI (ls.take (tA4 ls))≠0 then BI (ls.take (tA4 ls))else CT (tO ls)
def G6(ls:List Nat):Nat:=if tE4 ls≠0 then 0 else if BI (ls.take (tA4 ls))≠0 then 0 else tA4 ls
def FZ(ls:List Nat):Int:=if EH ls≠0 then EH ls else if FU ls≠2 then 4 else if EX ls≠0 then EX ls else Ei (tO ls) (ls.drop (tA4 ls))
end
theorem gM(w:World)(A B:Option Addr)(n m c d:Nat)(la lb:List Nat)(hn:la.length=n)(hm:lb.length=m)(hN:n<=3000000000)(hM:m<=3000000000)(ha:Row w w A n 1 (jZ .i64 la))(hb:Row w w B m 1 (jZ .i64 lb)):
 Calls prog 127 #[.slice A n c, .slice B m d] w fun e w'=>e= .returned (.bool (decide (la=lb)))/\∃q,w'=w.drewN q:=by
 by_cases he:n=m
 ·subst he;have HA:=hid ha;have HB:=hid hb;have HN:=hid hn;have HM:=hid hm;have z1:((n:Int) != (n:Int))=false:=by simp
  clear ha hb hn hm;go_enter func127,ntmps127;go_wp2_with fail;go_loopw [13] (fun i wx=>∃k:Nat,k<=n/\i= .int .i64 k/\Hid (decide (la.drop k=lb.drop k)=decide (la=lb))/\Hid (∃q,wx=w.drewN q)) (fun i _=>n-(intOf i).toNat)
  case atStart=>exact⟨0,nj,rfl,rfl,0,rfl⟩
  case round=>
   obtain⟨k,hk,rfl,hE,HQ⟩:=hrel;have y:Hid (∀nq,∃q,wr.drewN nq=w.drewN q):=fun nq=>ni
   by_cases h:k<n
   ·have z:Row wr w A n 1 (jZ .i64 la):=(by obtain⟨q,hq⟩:=HQ.out;rw[hq];exact HA.out);have G:Row wr w B n 1 (jZ .i64 lb):=(by obtain⟨q,hq⟩:=HQ.out;rw[hq];exact HB.out);obtain⟨b1,o1,x1,rfl,M,E,Q⟩:=CO z HN.out h;obtain⟨b2,o2,x2,rfl,N,J,L⟩:=CO G HM.out h;have he:=hE.out;rw[Sz (by rw[HN.out];exact h) (by rw[HM.out];exact h),Aq,Aq,E,J]at he;simp only[Option.getD_some]at he;have y0:(0:Int)<=(k:Int):=nj;have y1:(k:Int)<(n:Int):=nj;have gk:=ic ((k:Int)<n);clear E J hE z G HQ;by_cases j:x1=x2
    ·subst j;rw[Bd rfl,Bool.true_and]at he;have HE:=hid he;have e1:((x1:Int) != (x1:Int))=false:=rX;clear he;go_wp2_with fail;go_quiet (fail);go_wp2_with fail;go_roundw
     case measure=>exact jq
     case rel=>go_light;exact⟨k+1,nj,iw,HE.out,y.out _⟩
    ·rw[Be j,JG]at he;have HE:=hid he;have e1:((x1:Int) != (x2:Int))=true:=qr;clear he j;go_wp2_with fail;go_quiet (fail);go_wp2_with fail;go_ret;exact⟨GV HE.out,y.out _⟩
   ·obtain rfl:k=n:=by omega
    have gk:=ig ((k:Int)<k);have he:=hE.out;rw[El py,El (by rw[HM.out];exact Ak _)]at he;have HE:=hid he;clear he hE y;go_wp2_with fail;go_ret;exact⟨GV (by rw[<-HE.out];rfl),HQ.out⟩
 ·have hR:decide (la=lb)=false:=Be fun e=>by rw[e]at hn;omega
  have z1:((n:Int) != (m:Int))=true:=qr
  rw[hR];clear hR hn hm ha hb he;go_enter func127,ntmps127;go_wp2_with fail;go_ret;exact⟨rfl,0,rfl⟩
theorem fJ(w:World)(A A2:Option Addr)(n n2 c c2:Nat)(ls ms:List Str)(hn:ls.length=n)(J:ms.length=n2)(hN:n<=3000000000)(ha:Row w w A n 1 (Gc ls))(Y:Row w w A2 n2 1 (Gc ms)):
 Calls prog 125 #[.slice A n c, .slice A2 n2 c2] w fun e w'=>e= .returned (.bool (decide (ls=ms)))/\∃q,w'=w.drewN q:=by
 have HN:=hid hn;have aa:=hid J
 have HY:Hid (n=n2->(∀i,i<n->ls.getD i []=ms.getD i [])->decide (ls=ms)=true):=fun he h=>Bd (List.ext_getElem nj fun i h1 h2=>by
  have:=h i nj
  rwa [Aq,Aq,Az h1,Az h2]at this)
 have z:Hid (∀ (i:Nat) x y,ls[i]? =some x->ms[i]? =some y->x≠y->decide (ls=ms)=false):=fun i x y hx hy hne=>Be fun e=>by rw[e,hy]at hx;injection hx with hx;exact hne hx.symm
 have E:Hid (n≠n2->decide (ls=ms)=false):=fun hne=>Be fun e=>by rw[e]at hn;omega
 generalize decide (ls=ms)=R at *;clear hn J;by_cases he:n=n2
 ·subst he;have z1:((n:Int) != (n:Int))=false:=by simp
  have N:(n != n)=false:=rX
  clear E;go_enter func125,ntmps125;go_wp2_with fail;go_loopw [13] (fun iv wx=>∃k:Nat,k<=n/\iv= .int .i64 k/\Hid (∀i,i<k->ls.getD i []=ms.getD i [])/\Hid (∃q,wx=w.drewN q)) (fun iv _=>n-(intOf iv).toNat)
  case atStart=>exact⟨0,nj,rfl,fun i h=>absurd h nj,0,rfl⟩
  case round=>
   obtain⟨k,hk,rfl,HS,HQ⟩:=hrel;by_cases M:k<n
   ·have gk:=ic ((k:Int)<n);have Q:=ic (k<n);have x0:(0:Int)<=(k:Int):=nj;have x1:(k:Int)<(n:Int):=nj;have x2:(k:Int)<(n:Int):=nj;have U:Row wr w A n 1 (Gc ls):=(by obtain⟨q,hq⟩:=HQ.out;rw[hq];exact ha);have G:Row wr w A2 n 1 (Gc ms):=(by obtain⟨q,hq⟩:=HQ.out;rw[hq];exact Y);obtain⟨b,ae,x,rfl,_,hx,ck⟩:=Row.str U HN.out M;obtain⟨b2,ab,y,rfl,_,hy,ac⟩:=Row.str G aa.out (show k<n by omega);have L:Hid (∀nq,∃q,wr.drewN nq=w.drewN q):=fun nq=>by obtain⟨q,hq⟩:=HQ.out;exact⟨_,rd⟩
    by_cases j:x=y
    ·have ge:((bs x).toList==(bs y).toList)=true:=by rw[str_eq];simpa using j
     have Z:Hid (∀i,i<k+1->ls.getD i []=ms.getD i []):=fun i h=>by
      by_cases e:i<k
      ·exact HS.out i e
      ·obtain rfl:i=k:=by omega
       rw[Aq,Aq,hx,hy,j]
     clear HS hx hy j HQ;go_wp2_with fail;go_quiet (fail);go_wp2_with fail;go_roundw
     case measure=>exact jq
     case rel=>go_light;exact⟨k+1,nj,iw,Z.out,L.out _⟩
    ·have ge:((bs x).toList==(bs y).toList)=false:=(by rw[str_eq];simpa using j);obtain rfl:=z.out k x y hx hy j;clear HS HY z hx hy j HQ;go_wp2_with fail;go_quiet (fail);go_wp2_with fail;go_ret;exact⟨rfl,L.out _⟩
   ·obtain rfl:k=n:=by omega
    have gk:=ig ((k:Int)<k);have Q:=ig (k<k);obtain rfl:=HY.out iz HS.out;clear HS HY z M;go_wp2_with fail;go_ret;exact⟨rfl,HQ.out⟩
 ·have z1:((n:Int) != (n2:Int))=true:=by simp;omega
  have N:(n != n2)=true:=sJ
  obtain rfl:=E.out he;clear HY z E he;go_enter func125,ntmps125;go_wp2_with fail;go_ret;exact⟨rfl,0,rfl⟩
theorem d7{la lb:List (List Nat)}{k:Nat}{x y:List Nat}(h:la[k]? =some x)(h':lb[k]? =some y):decide (la.drop k=lb.drop k)=(decide (x=y)&&decide (la.drop (k+1)=lb.drop (k+1))):=by obtain⟨h1,e1⟩:=CQ.1 h;obtain⟨h2,e2⟩:=CQ.1 h';rw[KL,Cp,decide_eq_true_eq,decide_eq_true_eq,decide_eq_true_eq,Dl h1,Dl h2,List.cons.injEq,e1,e2]
theorem dA(w:World)(A B:Option Addr)(n m c d p1 p2:Nat)(va vb:List Value)(la lb:List (List Nat))(hn:la.length=n)(hm:lb.length=m)(hN:n<=3000000000)(hM:m<=3000000000)(z:∀l∈la,l.length<=2000000)(E:∀l∈lb,l.length<=2000000)(h1:w.ownsRow p1 37 1 (.slice A n c) n va)(h2:w.ownsRow p2 37 1 (.slice B m d) m vb)
 (r1:∀ (i:Nat) v ids,va[i]? =some v->la[i]? =some ids->w.ownsRow p1 3 1 v ids.length (dZ .i64 ids))(r2:∀ (i:Nat) v ids,vb[i]? =some v->lb[i]? =some ids->w.ownsRow p2 3 1 v ids.length (dZ .i64 ids)):
 Calls prog 126 #[.slice A n c, .slice B m d, .func (.func 127) #[] #[]] w fun e w'=>e= .returned (.bool (decide (la=lb)))/\∃q,w'=w.drewN q:=by
 have hK:∀j wx,(callFunc 127 j).run prog wx= .ok (.enter 127 j) wx:=by intro j wx;simp[callFunc,go_sem,func127];rfl
 by_cases he:n=m
 ·subst he;have M:va.length=n:=by have:=h1.1;omega
  have J:vb.length=n:=by have:=h2.1;omega
  have HV:Hid (∀ (wx:World) i q,wx=w.drewN q->i<n->∃g1 g2 C1 k1 e1 C2 k2 e2 x y,A=some ⟨g1,0,none⟩/\B=some ⟨g2,0,none⟩/\wx.cell? ⟨g1,i,none⟩=some (.slice C1 k1 e1)/\wx.cell? ⟨g2,i,none⟩=some (.slice C2 k2 e2)/\la[i]? =some x/\lb[i]? =some y/\Calls prog 127 #[.slice C1 k1 e1, .slice C2 k2 e2] wx fun e w'=>e= .returned (.bool (decide (x=y)))/\∃q,w'=wx.drewN q):=fun wx i q hq hi=>by obtain⟨x,gx⟩:∃x,la[i]? =some x:=⟨_,Az nj⟩;obtain⟨y,gy⟩:∃y,lb[i]? =some y:=⟨_,Az nj⟩;obtain⟨u,gu⟩:∃u,va[i]? =some u:=⟨_,Az nj⟩;obtain⟨v,gv⟩:∃v,vb[i]? =some v:=⟨_,Az nj⟩;have o1:=r1 i u x gu gx;have o2:=r2 i v y gv gy;obtain⟨C1,e1,rfl⟩:=bZ o1;obtain⟨C2,e2,rfl⟩:=bZ o2;obtain⟨g1,c1,hA1,_,_⟩:=h1.form nj;injection hA1 with q1 q2 q3;subst q1;obtain⟨g2,c2,hA2,_,_⟩:=h2.form nj;injection hA2 with q1 q2 q3;subst q1;subst hq;exact⟨g1,g2,C1,_,e1,C2,_,e2,x,y,rfl,rfl,(h1.cellAt i nj).trans gu,(h2.cellAt i nj).trans gv,gx,gy,gM _ C1 C2 _ _ e1 e2 x y rfl rfl (by have:=z x (Bp gx);omega) (by have:=E y (Bp gy);omega) (Ab4 (eZ (w':=w.drewN q) o1 (fun _ _=>rfl)) rfl) (Ab4 (eZ (w':=w.drewN q) o2 (fun _ _=>rfl)) rfl)⟩
  have HN:=hid hn;have HM:=hid hm;have z1:((n:Int) != (n:Int))=false:=rX
  clear h1 h2 r1 r2 z E hn hm M J;go_enter func126,ntmps126;go_wp2_with fail;go_loopw [17] (fun i wx=>∃k:Nat,k<=n/\i= .int .i64 k/\Hid (decide (la.drop k=lb.drop k)=decide (la=lb))/\Hid (∃q,wx=w.drewN q)) (fun i _=>n-(intOf i).toNat)
  case atStart=>exact⟨0,nj,rfl,rfl,0,rfl⟩
  case round=>
   obtain⟨k,hk,rfl,hE,HQ⟩:=hrel;by_cases L:k<n
   ·obtain⟨q,hq⟩:=HQ.out;obtain⟨g1,g2,C1,k1,e1,C2,k2,e2,x,y,rfl,rfl,x1,x2,gx,gy,D⟩:=HV.out wr k q hq L;have he:=hE.out;rw[d7 gx gy]at he;have G:Hid (∀nq,∃q,wr.drewN nq=w.drewN q):=fun nq=>⟨_,rd⟩;have y0:(0:Int)<=(k:Int):=nj;have y1:(k:Int)<(n:Int):=nj;have gk:=ic ((k:Int)<n);clear hE HQ hq gx gy HV;by_cases h:x=y
    ·rw[Bd h,Bool.true_and]at he;rw[Bd h]at D;have HE:=hid he;have D:=hid D;clear he h;go_wp2_with fail;refine D.out.mono ?_;rintro e w2 ⟨rfl,nq,rfl⟩;clear D x1 x2;go_wp2_with fail;go_roundw
     case measure=>exact jq
     case rel=>go_light;exact⟨k+1,nj,iw,HE.out,G.out _⟩
    ·rw[Be h,JG]at he;rw[Be h]at D;have HE:=hid he;have D:=hid D;clear he h;go_wp2_with fail;refine D.out.mono ?_;rintro e w2 ⟨rfl,nq,rfl⟩;clear D x1 x2;go_wp2_with fail;go_ret;exact⟨GV HE.out,G.out _⟩
   ·obtain rfl:k=n:=by omega
    have gk:=ig ((k:Int)<k);have he:=hE.out;rw[El py,El (by rw[HM.out];exact Ak _)]at he;have HE:=hid he;clear he hE HV;go_wp2_with fail;go_ret;exact⟨GV (by rw[<-HE.out];rfl),HQ.out⟩
 ·have hR:decide (la=lb)=false:=Be fun e=>by rw[e]at hn;omega
  have z1:((n:Int) != (m:Int))=true:=qr
  rw[hR];clear hR hn hm h1 h2 r1 r2 z E he;go_enter func126,ntmps126;go_wp2_with fail;go_ret;exact⟨rfl,0,rfl⟩
def eqX(X Y:List Str×List (List Nat)):Bool:=decide (X.1=Y.1)&&decide (X.2=Y.2)
theorem Tj(w:World)(p1 p2:Nat)(vT vL J Q:Value)(vals E:List Value)(X Y:List Str×List (List Nat))(h1:IxAt w p1 vT vL vals X.1 X.2)(h2:IxAt w p2 J Q E Y.1 Y.2)(ae:X.1.length<=2000000)(af:X.2.length<=2000000)(ab:∀l∈X.2,l.length<=2000000)(ac:Y.2.length<=2000000)(Z:∀l∈Y.2,l.length<=2000000):
 Calls prog 65 #[.agg #[vT,vL], .agg #[J,Q]] w fun e w'=>e= .returned (.bool (eqX X Y))/\Below w w w':=by
 unfold eqX;have t1:=h1.t;have t2:=h2.t;have l1:=h1.l;have l2:=h2.l;obtain⟨n,hn⟩:=ii X.1.length;obtain⟨m,hm⟩:=ii X.2.length;obtain⟨n2,j⟩:=ii Y.1.length;obtain⟨m2,G⟩:=ii Y.2.length;rw[<-hn]at t1 ae;rw[<-j]at t2;rw[<-hm]at l1 af;rw[<-G]at l2 ac;obtain⟨A1,c1,rfl⟩:=bZ t1;obtain⟨A2,c2,rfl⟩:=bZ t2;obtain⟨B1,d1,rfl⟩:=bZ l1;obtain⟨B2,d2,rfl⟩:=bZ l2;have DS:=hid (fun wx (hb:Below w w wx)=>fJ wx A1 A2 n n2 c1 c2 X.1 Y.1 hn.symm j.symm nj (((PQ (by rw[hn]at t1;exact t1)).below hb).mono hb.size |> fun h=>by rw[<-hn]at h;exact h) (((PQ (by rw[j]at t2;exact t2)).below hb).mono hb.size |> fun h=>by rw[<-j]at h;exact h));have far:∀ {wx:World} {b s n:Nat} {e:TypeId} {v:Value} {xs:List Value},Below w w wx->w.ownsRow b e s v n xs->wx.ownsRow b e s v n xs:=fun hb ho=>eZ ho fun y hy=>hb.block y (Aj ho y hy).2;have DF:=hid (fun wx (hb:Below w w wx)=>dA wx B1 B2 m m2 d1 d2 p1 p2 vals E X.2 Y.2 hm.symm G.symm nj nj ab Z (far hb l1) (far hb l2) (fun i v ids a b=>far hb (h1.r i v ids a b)) (fun i v ids a b=>far hb (h2.r i v ids a b)));generalize decide (X.1=Y.1)=R1 at *;generalize decide (X.2=Y.2)=R2 at *;clear h1 h2 t1 t2 l1 l2 hn hm j G far ab Z;go_enter func65,ntmps65;go_wp2_with fail;have M:Blk ((w.alloc (.cells #[.slice A1 n c1, .slice B1 m d1] 53)).alloc (.cells #[.slice A2 n2 c2, .slice B2 m2 d2] 53)) w 53 #[.slice A1 n c1, .slice B1 m d1]:=(Blk.made _ _ _).alloc _;have L:Blk ((w.alloc (.cells #[.slice A1 n c1, .slice B1 m d1] 53)).alloc (.cells #[.slice A2 n2 c2, .slice B2 m2 d2] 53)) (w.heap.size+1) 53 #[.slice A2 n2 c2, .slice B2 m2 d2]:=Blk.made_at _ _ _ rX;have N:Below w w ((w.alloc (.cells #[.slice A1 n c1, .slice B1 m d1] 53)).alloc (.cells #[.slice A2 n2 c2, .slice B2 m2 d2] 53)):=sT
 generalize (w.alloc (.cells #[.slice A1 n c1, .slice B1 m d1] 53)).alloc (.cells #[.slice A2 n2 c2, .slice B2 m2 d2] 53)=w2 at *;have aa:=hid M;have U:=hid L;have z:=hid N;have D:=hid (DS.out w2 z.out);clear M L N DS;cases R1
 ·refine D.out.mono ?_;rintro e w3 ⟨rfl,q0,rfl⟩;go_wp2_with fail;go_ret;exact⟨rfl,below_drewN z.out q0⟩
 ·refine D.out.mono ?_;rintro e w3 ⟨rfl,q0,rfl⟩;have k1:=(aa.out.drewN q0).ia 1;have k2:=(U.out.drewN q0).ia 1;have D2:=hid (DF.out (w2.drewN q0) (below_drewN z.out q0));clear D aa U DF;go_wp2_with fail;refine D2.out.mono ?_;rintro e w4 ⟨rfl,q1,rfl⟩;go_wp2_with fail;go_ret;exact⟨by first|rfl|exact GV rX,by first|exact below_drewN z.out _|(rw[Gy];exact below_drewN z.out _)⟩
variable{C L T ls:List Nat}{F:List (List Nat)}{k:Nat}
open Go.RowKit
def Gx(C T L:List Nat)(F:List (List Nat)):Nat->Nat->List Rec->List Rec×Int
 |0,_,acc=>(acc,0)
 |m+1,k,acc=>if Fq C F k≠0 then([],Fq C F k)else Gx C T L F m (k+1) (acc++GG C T L F k)
def Ga(l:List Rec):List Str×List (List Nat):=(AZ (l.map oZ),(AZ (l.map oZ)).map (Cy (l.map oZ)))
def Ns(X:List Str×List (List Nat))(R:List Rec×Int):Int:=if R.2≠0 then R.2 else if CI R.1≠0 then 6 else if eqX X (Ga R.1)=true then 0 else 15
def G9(C T L:List Nat)(X:List Str×List (List Nat))(F:List (List Nat)):Int:=Ns X (Gx C T L F F.length 0 [])
def IC(C T L:List Nat)(X:List Str×List (List Nat))(F:List (List Nat)):List Rec:=if G9 C T L X F=0 then(Gx C T L F F.length 0 []).1 else []
theorem mS(h:Fq C F k=0):(GG C T L F k).length=C.getD k 0:=by
 rw[show GG C T L F k=_ from Ab h,KY];unfold Fq at h;split at h
 ·rename_i h1;exact absurd h h1
 ·split at h
  ·cases h
  ·split at h
   ·rename_i h1;exact absurd h h1
   ·split at h
    ·cases h
    ·rename_i h1;exact G1 h1
theorem Qy(h:k<C.length):(C.take (k+1)).sum=(C.take k).sum+C.getD k 0:=by rw[<-List.take_append_getElem h,Ox,Aq,Az h];simp
theorem QD{l:List Rec}(h:CI l=0):(∀r∈l,r.source.size<=50000/\r.text.size<=50000)/\(Ga l).1.length<=2000000/\(Ga l).2.length<=2000000/\(∀x∈(Ga l).2,x.length<=2000000):=by
 have h1:=KJ h
 have hw:BC l<=1048576/\l.length<=20000:=by
  unfold CI at h;split at h
  ·cases h
  ·split at h
   ·cases h
   ·split at h
    ·cases h
    ·constructor<;>omega
 have a:=Oh (l.map oZ);have b:=LL l;have c:(AZ (l.map oZ)).length<=2000000:=nj
 refine⟨fun r hr=> ?_,c,?_,fun x hx=> ?_⟩
 ·have h2:=h1 r hr;unfold Cq at h2;simp at h2;omega
 ·unfold Ga;simp only;rw[Bu];exact c
 ·unfold Ga at hx;simp only at hx;obtain⟨u,_,rfl⟩:=CH.1 hx;have:=NX (l.map oZ) u;rw[Bu]at this;omega
def Q9(C T L:List Nat)(X:List Str×List (List Nat))(F:List (List Nat))(w:World)(e:Ending)(w':World):Prop:=
 ∃v,e= .returned (.tuple #[v, .int .i64 (G9 C T L X F)])/\w'.ownsRow w 43 4 v (IC C T L X F).length (Cs (IC C T L X F))/\Below w w w'
theorem Q6{X:List Str×List (List Nat)}{w w':World}{er:Int}(hE:G9 C T L X F=er)(h:er≠0)(hb:Below w w w'):Q9 C T L X F w (.returned (.tuple #[(),er])) w':=by subst hE;refine⟨_,rfl,?_,hb⟩;rw[show IC C T L X F= [] from Aa h];exact AI _ _ _ _
theorem Xi{o:Opt}(h8:∀x∈ls,x<=255)(h:Ei o ls=0):(By (oN ls) (AJ (Cr ls))).2.1.length=oN ls:=by
 have i:∀x∈AJ (Cr ls),x<=255:=JM (fun x hx=>by unfold Cr at hx;exact h8 x (BX (Bz (BX hx))))
 have h1:I9 o ls=0:=by
  unfold Ei at h;split at h
  ·rename_i he;exact absurd h he
  ·exact h
 have h2:opnD o ls=0:=by
  exact a3e
 have h3:Gb (Dd ls) (zZ ls)=0/\opnC o ls=0:=by
  exact a3h
 have h4:GJ (oN ls) (Cr ls)=0:=by
  exact a3f
 have h6:(By (oN ls) (AJ (Cr ls))).2.2.2=0:=by
  exact a2t
 exact nK i h6
theorem U5:∀ (S ls:List Nat) (f:List Nat),f∈CA S ls->f.length<=ls.length/\∀x∈f,x∈ls
 | [],_,_,h=>by cases h
 |n :: S,ls,f,h=>by
  rcases AO.1 h with rfl|h
  ·exact⟨oj,fun x hx=>BX hx⟩
  ·have ih:=U5 S (ls.drop n) f h;exact⟨AN ih.1 nz,fun x hx=>Bz (ih.2 x hx)⟩
theorem kC{o:Opt}(h8:∀x∈ls,x<=255)(hl:ls.length<=100000)(h:Ei o ls=0):
 (BM (zZ ls)).length=(CA (Cc (zZ ls)) (ls.take (Dd ls))).length/\(By (oN ls) (AJ (Cr ls))).1.length=(BM (zZ ls)).sum/\(By (oN ls) (AJ (Cr ls))).2.1.length=(BM (zZ ls)).sum/\
 (∀f∈CA (Cc (zZ ls)) (ls.take (Dd ls)),f.length<=100000/\∀x∈f,x<=255)/\(BM (zZ ls)).sum<=20000/\(CA (Cc (zZ ls)) (ls.take (Dd ls))).length<=20000:=by
 obtain⟨J,E,i,z,j,G⟩:=Wq h8 h;have hN:oN ls=(BM (zZ ls)).sum:=rfl;have y:=Xi h8 h;refine⟨by rw[K0];exact i.symm,j.trans hN,y.trans hN,fun f hf=> ?_,nj,by rw[K0];omega⟩;have hi:=U5 _ _ f hf;exact⟨AN hi.1 oj,fun x hx=>h8 x (BX (hi.2 x hx))⟩
theorem bL(w:World)(gb n c k:Nat)(A:Option Addr)(C:List Nat)(hc:w.cell? ⟨gb,0,none⟩=some (.slice A n c))(hn:C.length=n)(hN:n<=1000000)(hs:C.sum<=1000000000)(hk:k<=n)(i:n<=c)(hA:∀a,A=some a->a.add 0=a)(ha:Row w w A n 1 (jZ .i64 C)):
 Calls prog 124 #[.pointer (some ⟨gb,0,none⟩), .int .i64 (k:Nat)] w fun e w'=>e= .returned (.int .i64 ((C.take k).sum:Nat))/\w'=w:=by
 have h:(C.take k).sum<=C.sum:=LY C k;have D:=hid (Ah8 w A k c (C.take k) oj nj nj (Fj ha hk));have ks:=fun wx=>EG (P:=prog) (t:=37) (s:=1) underlying37 (fun _=>by kernel_rfl) A n c .i64 (k:Int) k rfl nj hA wx;generalize (C.take k).sum=S at *;clear hn ha hs h hA;go_enter func124,ntmps124;exact a1x
set_option maxHeartbeats 4000000 in
theorem Xv(w:World)(base gb k:Nat)(C S T L:List Nat)(X:List Str×List (List Nat))(F:List (List Nat))(K:List Bool)(hk:k<F.length)(an:C.length=F.length)(hT:T.length=C.sum)(hL:L.length=C.sum)(hF:∀f∈F,f.length<=100000/\∀x∈f,x<=255)(hN:C.sum<=20000)(be:F.length<=20000)(ht:TabAt w)(bp:BodyAt w base gb C S T L X F K):
 Calls prog 63 #[.pointer (some ⟨gb,0,none⟩), .int .i64 (k:Nat)] w (QG C T L F k w):=by
 obtain⟨vc,vs,p,q,vt,vl,vT,vL,vF,va,vals,fv,h0,h1,h2,h3,h4,h5,h6,h7⟩:=bp;have bh:fv.length=F.length:=by have:=h6.l.1;omega
 obtain⟨f,hf⟩:∃f,F[k]? =some f:=⟨_,Az hk⟩;obtain⟨u,hu⟩:∃u,fv[k]? =some u:=⟨_,Az nj⟩;have G:=h6.r k u f hu hf;have aq:F.getD k []=f:=by rw[Aq,hf];rfl
 obtain⟨cn,ah⟩:∃cn,C[k]? =some cn:=⟨_,Az nj⟩;have aj:C.getD k 0=cn:=by rw[Aq,ah];rfl
 have bu:(C.take k).sum+cn<=C.sum:=by rw[<-aj];exact j7 k
 have ae:=hF f (Bp hf);have z:=h6.l;have E:=hid (show Fq C F k=if opE f≠0 then opE f else if opA f<f.length then 2 else if(GU (opO f)).2≠0 then(GU (opO f)).2 else if(GU (opO f)).1.length≠cn then 2 else 0 by unfold Fq;rw[aq,aj]);have N:Hid (Fq C F k=0->GG C T L F k=Ev T L (C.take k).sum (GU (opO f)).1):=fun h=>by unfold GG;rw[Ab h,aq]
 obtain⟨nf,ay⟩:=ii F.length;obtain⟨kc,ab⟩:=ii C.length;obtain⟨nt,ax⟩:=ii T.length;obtain⟨nl,az⟩:=ii L.length;obtain⟨n,hn⟩:=ii f.length;rw[<-ay]at z hk be an;rw[<-ab]at h1 an;rw[<-ax]at h3 hT;rw[<-az]at h4 hL;rw[<-hn]at G;obtain⟨Ac,dC,rfl⟩:=bZ h1;obtain⟨At,ct,rfl⟩:=bZ h3;obtain⟨Al,cl,rfl⟩:=bZ h4;obtain⟨AF,dF,rfl⟩:=bZ z;obtain⟨Af,cf,rfl⟩:=bZ G;obtain⟨gF,b6,bf,bn,_⟩:=z.form nj;injection bf with q1 q2 q3;subst q1 q3;clear q2;obtain⟨gC,bC,bt,bi,_⟩:=h1.form nj;injection bt with q1 q2 q3;subst q1 q3;clear q2;have cF:=(z.cellAt k nj).trans hu;have cC:w.cell? ⟨gC,k,none⟩=some (.int .i64 (cn:Nat)):=by rw[h1.cellAt k nj];unfold dZ;rw[Co,ah];rfl
 have HS:Hid (∀wx,Below w w wx->wx.cell? ⟨gb,8,none⟩=some (.slice (some ⟨gF,0,none⟩) nf dF)/\wx.cell? ⟨gF,k,none⟩=some (.slice Af n cf)/\wx.cell? ⟨gb,0,none⟩=some (.slice (some ⟨gC,0,none⟩) kc dC)/\wx.cell? ⟨gC,k,none⟩=some (.int .i64 (cn:Nat))/\wx.cell? ⟨gb,4,none⟩=some (.slice At nt ct)/\wx.cell? ⟨gb,5,none⟩=some (.slice Al nl cl)):=fun wx hb=>⟨(h0.step hb).cell 8,(hb.cell (p:=⟨gF,k,none⟩) (Aj z gF rfl).2).trans cF,(h0.step hb).cell 0,(hb.cell (p:=⟨gC,k,none⟩) (Aj h1 gC rfl).2).trans cC,(h0.step hb).cell 4,(h0.step hb).cell 5⟩;have aa:=ae.2;have bl:=O4 aa;have a1:=UM aa;have bb:=hid a1;have bd:Hid ((opO f).length<=100000):=by show _<=_;have:=ae.1;omega
 have Y:=Ab4 G hn.symm;have D1:=hid (Sf w f Af n cf hn.symm (by have:=ae.1;omega) (Et G).2 (Et G).1 (fun h=>VV Y nj) aa ht Y);unfold ND at D1;have DF:=hid (fun wx (hb:Below w w wx)=>bL wx gb kc dC k (some ⟨gC,0,none⟩) C (HS.out wx hb).2.2.1 ab.symm nj nj nj (Et h1).2 (fun a ha=>by injection ha with ha;subst ha;rfl) (Ab4 (eZ h1 fun y hy=>hb.block y (Aj h1 y hy).2) ab.symm));have HT:Hid (∀wx i,Below w w wx->i<nt->∃g,At=some ⟨g,0,none⟩/\wx.cell? ⟨g,i,none⟩=some (.int .u64 (T.getD i 0:Nat))):=fun wx i hb hi=>by obtain⟨b,cX,hA,hg,_⟩:=h3.form nj;injection hA with q1 q2 q3;subst q1;have h:=h3.cellAt i nj;refine⟨b,rfl,(hb.cell (p:=⟨b,i,none⟩) (Aj h3 b rfl).2).trans (h.trans ?_)⟩;unfold dZ;rw[Co,Aq,Az nj];rfl
 have HL:Hid (∀wx i,Below w w wx->i<nl->∃g,Al=some ⟨g,0,none⟩/\wx.cell? ⟨g,i,none⟩=some (.int .u8 (L.getD i 0:Nat))):=fun wx i hb hi=>by obtain⟨b,cX,hA,hg,_⟩:=h4.form nj;injection hA with q1 q2 q3;subst q1;have h:=h4.cellAt i nj;refine⟨b,rfl,(hb.cell (p:=⟨b,i,none⟩) (Aj h4 b rfl).2).trans (h.trans ?_)⟩;unfold dZ;rw[Co,Aq,Az nj];rfl
 obtain⟨s1,s2,s3,s4,s5,s6⟩:=HS.out w (Ae _ _);have bx:(k:Int)<(nf:Int):=nj
 have bO:(k:Int)<(kc:Int):=nj
 have b7:(0:Int)<=(k:Int):=nj
 have Q:Hid ((C.take k).sum+cn<=nt/\(C.take k).sum+cn<=nl/\(C.take k).sum+cn<=20000):=by show _/\_;omega
 generalize (C.take k).sum=a0 at *;have ag:Hid (f.length=n):=hn.symm;clear h0 h1 h2 h3 h4 h5 h6 h7 z G hu hf aq ah aj bu ae hn ay ab ax az aa bl a1 Y cF cC hT hL hF hN ht bn bi bh an;go_enter func63,ntmps63;go_wp2_with fail;refine D1.out.mono ?_;rintro e w1 ⟨v1,rfl,M,J⟩;obtain⟨A1,c1,rfl⟩:=bZ M;have B1:=hid J;obtain⟨s1,s2,s3,s4,s5,s6⟩:=HS.out w1 J;have ak:=J.size;by_cases j:opE f=0
 ·have hE:=E.out;rw[Aa (by simp[j])]at hE;rw[j];by_cases ac:opA f<f.length
  ·rw[Ab ac]at hE;have HE:=hid hE;have ga:decide ((opA f:Int)<(n:Int))=true:=si;have bk:decide (opA f<n)=true:=si;generalize opA f=oa at *;clear E hE M J D1 DF j ac HT HL Q N HS;go_wp2_with fail;go_ret2;exact MT HE.out ip B1.out
  ·rw[Aa ac]at hE;have ga:decide ((opA f:Int)<(n:Int))=false:=si;have bk:decide (opA f<n)=false:=si;have D2:=hid (XL w1 A1 _ c1 (opO f) rfl bd.out bb.out (Et M).1 (Ab4 M rfl));unfold VJ at D2;generalize opA f=oa at *;generalize hR:GU (opO f)=R at *;generalize (opO f).length=lo at *;obtain⟨R,re⟩:=R;simp only at hE D2;have HE:=hid hE;clear E hE M J D1 j ac hR;go_wp2_with fail;refine D2.out.mono ?_;rintro e w2 ⟨v2,rfl,Z,ai⟩;obtain⟨m,hm⟩:=ii R.length;rw[<-hm]at Z;obtain⟨A2,c2,rfl⟩:=bZ Z;have B2:Hid (Below w w w2):=B1.out.trans (ai.mono ak);obtain⟨s1,s2,s3,s4,s5,s6⟩:=HS.out w2 B2.out;have a9:Hid (w2.ownsRow w1 43 4 (.slice A2 m c2) m (Cs R)):=Z;have a7:=hid ai;have HM:=hid hm;clear Z ai D2 hm;by_cases U:re=0
   ·subst U;by_cases a3:m=cn
    ·subst a3;have gm:((m:Int) != (m:Int))=false:=rX;have a4:Hid (Fq C F k=0):=(by have h:=HE.out;rw[Aa rX,Aa (by simp[HM.out])]at h;exact h);have a5:Hid (GG C T L F k=Ev T L a0 R):=N.out a4.out;have D3:=hid (DF.out w2 B2.out);obtain⟨l1,l2,l3⟩:=Q.out;clear HE N DF;go_wp2_with fail;refine D3.out.mono ?_;rintro e w3 ⟨rfl,rfl⟩;clear D3;go_wp2_with fail;go_loopw [67] (fun iv wr=>∃i:Nat,i<=m/\iv= .int .i64 i/\Hid (wr.ownsRow w1 43 4 (.slice A2 m c2) m (Cs (FO T L a0 R i)))/\Hid (Below w1 w1 wr)) (fun iv _=>m-(intOf iv).toNat)
     case atStart=>exact⟨0,nj,rfl,by rw[Yw];exact a9.out,a7.out⟩
     case round=>
      obtain⟨i,hi,rfl,HO,HB⟩:=hrel;have af:Hid (Below w w wr):=B1.out.trans (HB.out.mono ak);by_cases ar:i<m
      ·obtain⟨gt,bj,bm⟩:=HT.out wr (a0+i) af.out nj;obtain⟨gl,bq,a8⟩:=HL.out wr (a0+i) af.out nj;subst bj bq;obtain⟨s1,s2,s3,s4,s5,s6⟩:=HS.out wr af.out;have ho:=HO.out;obtain⟨gr,cX,bc,a6,_⟩:=ho.form nj;injection bc with q1 q2 q3;subst q1 q3;clear q2;have gk:=ic ((i:Int)<m);have bS:=ic (i<m);have b3:(0:Int)<=(i:Int):=nj;have bN:(i:Int)<(m:Int):=nj;have b0:IntKind.i64.wrap ((a0:Int)+(i:Int))=((a0+i:Nat):Int):=pj;have b4:(0:Int)<=((a0+i:Nat):Int):=nj;have b1:((a0+i:Nat):Int)<(nt:Int):=nj;have b5:((a0+i:Nat):Int)<(nl:Int):=nj;have au:i<(FO T L a0 R i).length:=(by rw[oI,<-HM.out];exact ar);have k0:wr.cell? ⟨gr,i*4,none⟩=some (.int .u64 ((FO T L a0 R i).getD i GX).time):=(ho.cellAt (i*4) nj).trans (M0 _ i 0 au nj);have k1:wr.cell? ⟨gr,i*4+1,none⟩=some (.int .u8 ((FO T L a0 R i).getD i GX).level):=(ho.cellAt (i*4+1) nj).trans (M0 _ i 1 au nj);have f0:=ho.frozenAt (i*4);have f1:=ho.frozenAt (i*4+1);generalize ((FO T L a0 R i).getD i GX).time=z0 at k0;generalize ((FO T L a0 R i).getD i GX).level=z1 at k1;obtain⟨tv,aw⟩:=ii (T.getD (a0+i) 0);obtain⟨lv,av⟩:=ii (L.getD (a0+i) 0);rw[<-aw]at bm;rw[<-av]at a8;have ba:=hid aw;have bg:=hid av;clear ho HT HL aw av au;go_wp2_with fail;go_region;go_wp2_with fail;go_roundw
       case measure=>exact jq
       case rel=>go_light;refine⟨i+1,nj,jr,?_,((HB.out.setCell (p:=⟨gr,i*4,none⟩) a6 _).setCell (p:=⟨gr,i*4+1,none⟩) a6 _).drew⟩;rw[ba.out,bg.out,<-XT (by rw[<-HM.out];exact ar)];exact(World.ownsRow.stored (World.ownsRow.stored HO.out (i*4) _).1 (i*4+1) _).1.drew
      ·obtain rfl:i=m:=by omega
       have gk:=ig ((i:Int)<i);clear HT HL HS ar;go_wp2_with fail;go_ret2;have hz:FO T L a0 R i=Ev T L a0 R:=(by rw[HM.out];exact pF ..);refine⟨.slice A2 i c2,by rw[a4.out];rfl,?_,af.out⟩;rw[a5.out,KY,<-HM.out,<-hz];exact kZ HO.out ak
    ·have gm:((m:Int) != (cn:Int))=true:=qr;have am:Hid (Fq C F k=2):=(by have h:=HE.out;rw[Aa rX,Ab (by have:=HM.out;omega)]at h;exact h);clear HE DF a3 HT HL Q N HS;go_wp2_with fail;go_ret2;exact MT am.out ip B2.out
   ·have gr:(re != 0)=true:=(by simpa using U);have am:Hid (Fq C F k=re):=(by have h:=HE.out;rw[Ab U]at h;exact h);have al:=hid U;clear HE DF U HT HL Q N HS;go_wp2_with fail;go_ret2;exact MT am.out al.out B2.out
 ·have hE:=E.out;rw[Ab j]at hE;have HE:=hid hE;have al:=hid j;have gE:(opE f != 0)=true:=by simpa using j
  generalize opE f=oe at *;generalize opA f=oa at *;clear E hE M J D1 DF j HT HL Q N HS;go_wp2_with fail;go_ret2;exact MT HE.out al.out B1.out
end Go.Proofs.YtfgdoknipbpfhaaGreatDoor
