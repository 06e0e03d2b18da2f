/- Plain: numbers, colu -/
import Derived.Test.YtfgdoknipbpfhaaGreatDoorZBodyBack35
import Derived.Test.YtfgdoknipbpfhaaGreatDoorZBodyBack42
namespace Go.Proofs.YtfgdoknipbpfhaaGreatDoor
open Go.Lib (hid)
variable{bound d i j k x:Nat}{C L T a:List Nat}{w:World}
namespace Nums
open NumPut Go.Proofs.YtfgdoknipbpfhaaGreatDoor.One
theorem G0{bs rest:List Nat}{most:Nat}(h:bs.drop k=gZ x++rest)(hx:x<=most)(hm:most<=1000000000):Bd most bs k 0=x/\AJ most bs k 0=k+(gZ x).length/\AM most bs k 0=0:=by unfold Bd AJ AM;rw[h,Qd hx hm];simp
theorem bI{bs rest:List Nat}(h:bs.drop k=gZ x++rest)(hx:x<18446744073709551616):Hq bs k 0=x/\Jb bs k 0=k+(gZ x).length/\I9 bs k 0=0:=by unfold Hq Jb I9;rw[h,Ul hx];simp
theorem Y6{bs rest:List Nat}(h:bs.drop k=x :: rest):GM bs k 0=x/\takeA bs k 0 1=k+1/\Ca bs k 0 1=0/\bs.drop (k+1)=rest:=by
 have hl:1<=bs.length-k:=by have:=Az List.length h;rw[AO,AD]at this;omega
 have hb:bs.getD k 0=x:=by
  have:(bs.drop k)[0]? =some x:=qo
  rw[GB,Bi]at this;rw[Am,this];rfl
 unfold GM takeA Ca;refine⟨by rw[Aa qT,hb],oq,oq,?_⟩;rw[<-List.drop_drop,h];rfl
theorem YO{bs rest:List Nat}(h:bs.drop k=a++rest):BC bs k 0 a.length=a/\takeA bs k 0 a.length=k+a.length/\Ca bs k 0 a.length=0:=by
 have hl:a.length<=bs.length-k:=by have:=Az List.length h;rw[AO,Ag]at this;omega
 unfold BC takeA Ca;refine⟨by rw[Aa qT,Aa nj,h,List.take_left],oq,oq⟩
end Nums
namespace Recs
open NumPut Nums Go.Proofs.YtfgdoknipbpfhaaGreatDoor.One
theorem Yv(h:d<18446744073709551616):G9 (Gq d)=d:=by unfold G9 Gq;split<;>split<;>omega
theorem Rr{bs rest:List Nat}:∀ (ts:List Nat) (at_ i:Nat) (j:List Nat),bs.drop at_=Cm stepT i ts++rest->i<18446744073709551616->(∀t∈ts,t<18446744073709551616)->FX ts.length bs at_ i j=(j++ts,at_+(Cm stepT i ts).length,0)
 | [],at_,i,j,_,_,_=>by simp[FX,Cm]
 |t :: ts,at_,i,j,h,hw,ht=>by
  have h0:=ht t CG;rw[Cm,AI]at h;have h:bs.drop at_=gZ (Gq (IL t i))++(Cm stepT t ts++rest):=h;obtain⟨e1,e2,e3⟩:=bI h (MW (MP _ _));have ev:(i+G9 (Gq (IL t i))) % 18446744073709551616=t:=by rw[Yv (MP _ _)];unfold IL;omega
  rw[AD,FX,e1,e2,e3,Aa qT,ev,Rr ts _ t _ (Ey h) h0 (fun x hx=>ht x (Ce _ hx)),Cm,Ag];simp[stepT,Nat.add_assoc]
theorem SJ(x:Nat):∀l:List Nat,l.take (lead x l)=List.replicate (lead x l) x
 | []=>by simp[lead]
 |y :: t=>by
  rw[lead];split
  ·rename_i h;rw[List.take_succ_cons,SJ x t,List.replicate_succ,h]
  ·simp
theorem Sv(x:Nat):∀l:List Nat,(l.drop (lead x l)).head?≠some x
 | []=>by simp[lead]
 |y :: t=>by
  rw[lead];split
  ·rw[List.drop_succ_cons];exact Sv x t
  ·rename_i h;simpa using h
theorem QY{bs rest:List Nat}{n:Nat}(hn:n<=1000000000):∀ (f:Nat) (l:List Nat) (at_:Nat) (i:List Nat),l.length<=f->i.length+l.length=n->bs.drop at_=lvB l++rest->(∀x,l.head?=some x->i.getLast?≠some x)->Fz f n bs at_ i=(i++l,at_+(lvB l).length,0)
 |f,[],at_,i,_,hs,_,_=>by rw[Rt (by simp at hs;omega),lvB];simp
 |f+1,x :: t,at_,i,hf,hs,h,hx=>by
  have hl:=Pa x t;simp only[List.length_cons]at hf hs;rw[lvB,Ei,AI]at h;obtain⟨b1,b2,b3,b4⟩:=Y6 h;obtain⟨i1,i2,i3⟩:=G0 (most:=n-i.length) b4 nj nj;have ho:Iz (n-i.length) bs at_=(x,lead x t+1,at_+1+(gZ (lead x t+1)).length,0):=by unfold Iz;rw[b1,b2,b3,i1,i2,i3]
  have he:Lh i (x,lead x t+1,at_+1+(gZ (lead x t+1)).length,0)=0:=by
   unfold Lh;rw[Aa qT,Aa];rintro(h0|h0)
   ·simp at h0
   ·exact hx x rfl h0
  rw[Fz,Aa nj,ho,he,Aa qT];simp only;rw[QY hn f (t.drop (lead x t)) _ (i++List.replicate (lead x t+1) x) oi (by rw[Ag,DQ,AO];omega) (Ey b4) (fun y hy=>by rw[List.getLast?_append,List.getLast?_replicate,Aa nj];intro e;have:x=y:=(by simpa using e);subst this;exact Sv _ _ hy)];rw[lvB,AI];refine Prod.ext ?_ (Prod.ext ?_ rfl)
  ·simp only;rw[List.replicate_succ,Ei,<-SJ,EV]
  ·simp only[List.length_cons,List.length_append];omega
theorem XO{l:List Rec}(h:∀r∈l,Ci r):∀t∈Bh l,t<18446744073709551616:=fun t ht=>by obtain⟨r,hr,rfl⟩:=Co.1 ht;obtain⟨h1,h2,_,_⟩:=h r hr;omega
theorem ZQ{l:List Rec}(h:∀r∈l,Ci r)(hn:l.length<=20000):Ek l.length (Di l)=(Bh l,Bv l,(Di l).length,0):=by
 have ht:=Rr (bs:=Di l) (rest:=lvB (Bv l)) (Bh l) 0 0 [] rfl nj (XO h);have hd:(Di l).drop (0+(Cm stepT 0 (Bh l)).length)=lvB (Bv l)++ []:=by unfold Di;rw[BP,List.drop_left,BX]
 have j:(Bh l).length=l.length:=by unfold Bh;rw[Bc]
 have i:(Bv l).length=l.length:=by unfold Bv;rw[Bc]
 have hv:=QY (n:=l.length) nj l.length (Bv l) _ [] nj (by simp[i]) hd (fun x _=>by simp);rw[j]at ht;unfold Ek;rw[ht];unfold JX;rw[Aa qT];simp only;rw[hv];unfold MO;rw[Aa qT];simp only[List.nil_append];refine Prod.ext rfl (Prod.ext rfl (Prod.ext ?_ rfl));unfold Di;simp only[List.length_append];omega
end Recs
namespace Crc
theorem Pw(b:List Nat):CM (b++CW (Cq b))=0/\Bk (b++CW (Cq b))=b:=by
 have ht:(CW (Cq b)).length=4:=rfl;have hl:(b++CW (Cq b)).length-4=b.length:=pd
 have h4:4<=(b++CW (Cq b)).length:=pd
 have hC:CM (b++CW (Cq b))=0:=by unfold CM;rw[Aa nj,hl,List.take_left,List.drop_left,Ab rfl]
 exact⟨hC,by unfold Bk;rw[Ab hC,hl,List.take_left]⟩
end Crc
namespace Idx
open NumPut Nums Go.Proofs.YtfgdoknipbpfhaaGreatDoor.One
theorem UA(s:Str):toS (Hn s)=s:=by
 unfold toS Hn;rw[List.map_map]
 conv=>rhs;rw[<-List.map_id s]
 exact Kz fun x _=>qT
theorem Sg{bs rest:List Nat}{s:Str}(h:bs.drop k=De s++rest)(hs:s.length<=25):EP 25 bs k 0=Hn s/\D9 25 bs k 0=k+(De s).length/\D7 25 bs k 0=0:=by
 have hl:(Hn s).length=s.length:=by unfold Hn;rw[Bc]
 have hp:Cr 25 (bs.drop k)=(Hn s,(De s).length,0):=by rw[h];unfold Cr De;rw[AI,Qd hs nj];simp only[List.length_append,hl,List.drop_left];rw[Aa qT,Aa nj,<-hl,List.take_left]
 unfold EP D9 D7;rw[hp];simp
theorem Rc:∀a b:Str,a.take (Bq a b)=b.take (Bq a b)
 | [],b=>by simp[Bq]
 |a :: s,[]=>by simp[Bq]
 |a :: s,b :: t=>by
  rw[Bq];split
  ·rename_i h;rw[List.take_succ_cons,List.take_succ_cons,Rc s t,h]
  ·simp
theorem Un:∀ {a b:Str},a<b->Bq a b<b.length
 | [],[],h=>absurd h (Iq _)
 | [],b :: t,_=>by simp[Bq]
 |a :: s,[],h=>absurd h qT
 |a :: s,b :: t,h=>by
  rw[Bq];split
  ·rename_i e;subst e;rw[List.cons_lt_cons_iff]at h;rcases h with h|h
   ·exact absurd h (UInt8.lt_irrefl _)
   ·have:=Un h.2;rw[AD];omega
  ·simp
theorem Nv{i x:Str}(h:Eo i x=true):1<=x.length/\x.length<=25/\i<x:=by unfold Eo at h;rw[Cf,Cf,decide_eq_true_iff,decide_eq_true_iff,decide_eq_true_iff]at h;exact h
theorem Zi{bs rest:List Nat}{i x:Str}(h:bs.drop k=De x++rest)(hm:Eo i x=true):EN bs i true k=(x,k+(De x).length,0):=by
 obtain⟨m1,m2,m3⟩:=Nv hm;obtain⟨e1,e2,e3⟩:=Sg h m2;unfold EN nxN nxA nxE;simp only[if_true];rw[e1,e2,e3,UA];unfold nxS;rw[Aa qT,List.take_zero,EF,Aa];rintro(h0|h0|h0)
 ·rw[h0]at m1;simp at m1
 ·rw[hm]at h0;cases h0
 ·cases h0.1
theorem Zw{bs rest:List Nat}{i x:Str}(h:bs.drop k=gZ (Bq i x)++(De (x.drop (Bq i x))++rest))(hw:i.length<=25)(hm:Eo i x=true):EN bs i false k=(x,k+(gZ (Bq i x)).length+(De (x.drop (Bq i x))).length,0):=by
 obtain⟨m1,m2,m3⟩:=Nv hm;have ha:=LG i x;have j:=Un m3;obtain⟨i1,i2,i3⟩:=G0 (most:=i.length) h ha.1 nj;obtain⟨e1,e2,e3⟩:=Sg (Ey h) oi;unfold EN nxN nxA nxE;simp only[Bool.false_eq_true,if_false];rw[i1,i2,i3,e1,e2,e3,UA];unfold nxS;rw[Rc,EV,Aa qT,Aa];rintro(h0|h0|h0)
 ·have:=Az List.length h0;rw[AO,CX]at this;omega
 ·rw[hm]at h0;cases h0
 ·exact h0.2 rfl
theorem RW{bs:List Nat}:∀ (t:List Str) (j:Str) (k:Nat) (i:List Str),i.getLast?.getD []=j->j.length<=25->bs.drop k=El j t->k<=bs.length->Dd j t=true->C8 bs t.length false k i=(i++t,0)
 | [],j,k,i,_,_,h,_,_=>by
  have:¬k<bs.length:=fun hk=>by have:=Az List.length h;rw[AO,El,CX]at this;omega
  show(i,GL bs k 0)=_;unfold GL;rw[Aa this,BX]
 |x :: t,j,k,i,ha,hw,h,hk,hr=>by rw[Dd,Cf]at hr;obtain⟨m1,m2,m3⟩:=Nv hr.1;rw[El,AI]at h;have hn:=Zw h hw hr.1;have h2:=Ey (Ey h);have hl:=Az List.length h;simp only[List.length_drop,List.length_append]at hl;rw[AD,C8,ha,hn,Aa qT];simp only;rw[RW t x _ (i++ [x]) qT m2 h2 nj hr.2,AI];rfl
theorem jF{c h:List Str}(h0:c≠ [])(hr:Dd (h.getLast?.getD []) c=true):C8 (tZ c) c.length true 0 h=(h++c,0):=by
 cases c with
 |nil=>exact absurd rfl h0
 |cons x t=>rw[Dd,Cf]at hr;obtain⟨m1,m2,m3⟩:=Nv hr.1;have hn:=Zi (bs:=tZ (x :: t)) (k:=0) (rest:=El x t) rfl hr.1;rw[AD,C8,hn,Aa qT];simp only;rw[RW t x _ (h++ [x]) qT m2 (by rw[BP];exact List.drop_left) (by rw[tZ,Ag];omega) hr.2,AI];rfl
theorem QM:∀ (a b:List Str) (i:Str),Dd i (a++b)=true->Dd i a=true/\Dd (a.getLast?.getD i) b=true
 | [],b,i,h=>⟨rfl,h⟩
 |x :: a,b,i,h=>by
  rw[Ei,Dd,Cf]at h;obtain⟨h1,h2⟩:=QM a b x h.2;refine⟨by rw[Dd,Cf];exact⟨h.1,h1⟩,?_⟩;cases a with
  |nil=>exact h2
  |cons y s=>simpa[List.getLast?_cons]using h2
theorem Xq(a b:List Str):(a++b).getLast?.getD []=b.getLast?.getD (a.getLast?.getD []):=by rw[List.getLast?_append];cases b.getLast?<;>rfl
theorem Ud{bs rest:List Nat}{size:Nat}(h1:1<=size):∀ (f:Nat) (l:List Str) (k:Nat) (i:List Str),l.length<=f->bs.drop k=(Dq size f l).flatMap tZ++rest->Dd (i.getLast?.getD []) l=true->
 bkR size bs ((Dq size f l).map fun c=>(tZ c).length) l.length k i=(i++l,k+((Dq size f l).flatMap tZ).length,0)
 |0,l,k,i,hf,_,_=>by obtain rfl:l= []:=GC nj;simp[Dq,bkR]
 |f+1,l,k,i,hf,h,hr=>by
  rw[Dq]at h ⊢;by_cases e:l= []
  ·subst e;simp[bkR]
  ·have hp:1<=l.length:=FP.2 e;rw[Aa e]at h ⊢;rw[Cu,AI]at h;obtain⟨t1,t2,t3⟩:=YO h;have hc:l.take size≠ []:=fun h0=>by have:=Az List.length h0;rw[Ba,CX]at this;omega
   have j:=QM (l.take size) (l.drop size) _ (by rw[EV];exact hr);have hb:=jF hc j.1;rw[Ba]at hb;rw[Cp,bkR,t1,t2,t3,Aa qT,hb,Aa qT];simp only;have ih:=Ud h1 f (l.drop size) (k+(tZ (l.take size)).length) (i++l.take size) oi (Ey h) (by rw[Xq];exact j.2);rw[AO]at ih;rw[ih,AI,EV,Cu,Ag,Nat.add_assoc]
theorem QW{bs rest:List Nat}{size n:Nat}(h1:1<=size):∀ (f g:Nat) (l:List Str) (k x:Nat) (i:List Nat),l.length<=f->l.length<=g->l.length=n-x->bs.drop k=(Dq size g l).flatMap (fun c=>gZ (tZ c).length)++rest->(∀c∈Dq size g l,(tZ c).length<=2000)->
 szR n size bs f k x i=(i++(Dq size g l).map (fun c=>(tZ c).length),k+((Dq size g l).flatMap (fun c=>gZ (tZ c).length)).length,0)
 |f,g,[],k,x,i,_,_,hn,_,_=>by
  have hx:n<=x:=by simp at hn;omega
  rw[Q5 hx];cases g with
  |zero=>simp[Dq]
  |succ g=>simp[Dq]
 |0,_,y :: t,_,_,_,hf,_,_,_,_=>absurd hf qT
 |_+1,0,y :: t,_,_,_,_,hg,_,_,_=>absurd hg qT
 |f+1,g+1,y :: t,k,x,i,hf,hg,hn,h,hb=>by rw[Dq,Aa qT]at h hb ⊢;rw[Cu,AI]at h;obtain⟨i1,i2,i3⟩:=G0 (most:=2000) h (hb _ CG) nj;simp only[List.length_cons]at hf hg hn;rw[szR,Aa nj,i1,i2,i3,Aa qT];rw[QW h1 f g ((y :: t).drop size) _ (x+size) _ (by rw[AO,AD];omega) (by rw[AO,AD];omega) (by rw[AO,AD];omega) (Ey h) (fun c hc=>hb c (Ce _ hc))];rw[Cp,AI,Cu,Ag,Nat.add_assoc];rfl
theorem SR{size:Nat}:∀ (f:Nat) (l c:List Str),c∈Dq size f l->(∀s∈c,s∈l)/\c.length<=size
 |0,_,c,h=>by simp[Dq]at h
 |f+1,l,c,h=>by
  rw[Dq]at h;split at h
  ·cases h
  ·rcases AV.1 h with rfl|h
   ·exact⟨fun s hs=>Dc hs,pj⟩
   ·obtain⟨a,b⟩:=SR f _ c h;exact⟨fun s hs=>Ck (a s hs),b⟩
theorem Zd{size:Nat}{l:List Str}(hm:Gn l=true)(h1:1<=size)(h2:size<=64)(rest:List Nat):FY size (Dh size l++rest)=(l,(Dh size l).length,0):=by
 have hs:=Jv hm;unfold Gn at hm;rw[Cf,decide_eq_true_iff]at hm;have e0:(Dh size l++rest).drop 0=gZ l.length++((GQ size l).flatMap (fun c=>gZ (tZ c).length)++((GQ size l).flatMap tZ++rest)):=by unfold Dh;simp[List.append_assoc]
 obtain⟨i1,i2,i3⟩:=G0 (most:=1048576) e0 hm.2 nj;have e1:=Ey e0;have hz:=QW (n:=l.length) h1 l.length l.length l _ 0 [] (Ak _) (Ak _) rfl e1 (fun c hc=>by obtain⟨a,b⟩:=SR _ _ _ hc;have:=MZ (l:=c) (fun s hs'=>(hs s (a s hs')).2);omega);have hS:GF size (Dh size l++rest)=((GQ size l).map (fun c=>(tZ c).length),0+(gZ l.length).length+((GQ size l).flatMap (fun c=>gZ (tZ c).length)).length,0):=by unfold GF;rw[i1,i2,i3,Aa qT,hz];rfl
 have hk:=Ud h1 l.length l _ [] (Ak _) (Ey e1) hm.1;unfold FY;rw[hS,Aa qT,i1];simp only;have hk:bkR size (Dh size l++rest) ((GQ size l).map fun c=>(tZ c).length) l.length (0+(gZ l.length).length+((GQ size l).flatMap (fun c=>gZ (tZ c).length)).length) []=_:=hk;rw[hk];refine Prod.ext (EF _) (Prod.ext ?_ rfl);show _=(Dh size l).length;unfold Dh;simp only[List.length_append];show _+((GQ size l).flatMap tZ).length=_;omega
end Idx
namespace Ef
open Huff NumPut Nums Go.Proofs.YtfgdoknipbpfhaaGreatDoor.One
theorem W4{b:List Nat}(h:i<8*a.length):bit (Bp (a++b)) i=bit (Bp a) i:=by rw[NS pd,NS h];simp only[List.getD_eq_getElem?_getD];rw[GW nj]
theorem RD{a b:List Bool}(i:Nat):∀m,(∀j,j<m->bit a (i+j)=bit b (i+j))->yZ a i m=yZ b i m
 |0,_=>rfl
 |m+1,h=>by rw[yZ,yZ,RD i m (fun j hj=>h j nj),h m nj]
theorem Ro{a:List Bool}(i:Nat):∀m,(∀j,j<m->bit a (i+j)=0)->yZ a i m=0
 |0,_=>rfl
 |m+1,h=>by rw[yZ,Ro i m (fun j hj=>h j nj),h m nj]
theorem Ya(pre post:List Bool){x:List Bool}(h:j<x.length):bit (pre++(x++post)) (pre.length+j)=bit x j:=by unfold bit;simp only[List.getD_eq_getElem?_getD];rw[II nj,Jg,GW h]
theorem XL(h:j<d):bit (unary d) j=0:=by unfold bit unary;rw[Am,GW ru,List.getElem?_replicate,Ab h];rfl
theorem aO(d:Nat):bit (unary d) d=1:=by unfold bit unary;rw[Am,II qT];simp
theorem Sm{bs:List Bool}:∀ (d k f:Nat),(∀j,j<d->bit bs (k+j)=0)->bit bs (k+d)=1->d<f->unC bs k f=d
 |_,_,0,_,_,h=>absurd h nj
 |0,k,f+1,_,h1,_=>by rw[Bi]at h1;rw[unC,Ab h1]
 |d+1,k,f+1,h0,h1,hf=>by have h:=h0 0 nj;rw[Bi]at h;rw[unC,Aa (by rw[h];decide),Sm d (k+1) f (fun j hj=>by have:=h0 (j+1) nj;rwa [show k+1+j=k+(j+1) by omega]) (by rwa [show k+1+d=k+(d+1) by omega]) nj]
theorem pK{bs:List Bool}(h0:∀j,j<d->bit bs (k+j)=0)(h1:bit bs (k+d)=1)(hl:k+d<bs.length):unV bs k=d/\Huff.unE bs k=0/\unA bs k=k+d+1:=by have hd:unD bs k=d:=Sm d k _ h0 h1 nj;unfold unV Huff.unE unA;rw[hd,Ab hl,Ab hl,Ab hl];exact⟨rfl,rfl,rfl⟩
theorem TZ{bound W:Nat}{R B:List Bool}(hb:∀i,i<B.length->bit R i=bit B i)(hl:B.length<=R.length):∀ (E:List Nat) (pre:List Bool) (h:Nat) (G:List Nat),B=pre++Ew h (E.map (·/ 2 ^ W))->(∀x∈E,x<bound)->E.Pairwise (·< ·)->(∀x∈E,h<=x / 2 ^ W)->(∀y,G.getLast?=some y->∀x∈E,y<x)->
 rowN bound W R (E.map (·% 2 ^ W)) pre.length h G=(G++E,B.length,0)
 | [],pre,h,G,e,_,_,_,_=>by
  have e:B=pre:=by rw[e];simp[Ew]
  subst e;simp[rowN]
 |x :: t,pre,h,G,e,h1,h2,h3,h4=>by
  have hx:=h3 x CG;rw[FM]at h2;rw[Cp,Ew]at e;have L:=Az List.length e;rw[Ag,Ag,Kv]at L;have J:∀j,j<x / 2 ^ W-h+1->bit R (pre.length+j)=bit (unary (x / 2 ^ W-h)) j:=fun j hj=>by rw[hb _ nj,e,Ya _ _ (by rw[Kv];exact hj)]
  obtain⟨u1,u2,u3⟩:=pK (bs:=R) (k:=pre.length) (d:=x / 2 ^ W-h) (fun j hj=>by rw[J j nj,XL hj]) (by rw[J _ nj,aO]) nj;have hh:h+(x / 2 ^ W-h)=x / 2 ^ W:=nj
  have hv:x / 2 ^ W*2 ^ W+x % 2 ^ W=x:=by rw[Nat.mul_comm];exact Nat.div_add_mod x (2 ^ W)
  rw[Cp,rowN,u1,u2,u3,hh,hv,Aa qT,Aa,Aa (by have:=h1 x CG;omega)]
  ·have ih:=TZ hb hl t (pre++unary (x / 2 ^ W-h)) (x / 2 ^ W) (G++ [x]) (by rw[AI];exact e) (fun y hy=>h1 y (Ce _ hy)) h2.2 (fun y hy=>Nat.div_le_div_right (Nat.le_of_lt (h2.1 y hy))) (fun y hy z hz=>by have:x=y:=(by simpa using hy);subst this;exact h2.1 z hz);rw[Ag,Kv,<-Nat.add_assoc]at ih;rw[ih,AI];rfl
  ·rintro⟨ha,hc⟩;cases hz:G.getLast? with
   |none=>exact ha (List.getLast?_eq_none_iff.1 hz)
   |some y=>have:=h4 y hz x CG;rw[hz,Gc]at hc;omega
theorem Ub{W:Nat}{R B:List Bool}(hb:∀i,i<B.length->bit R i=bit B i):∀ (z:List Nat) (pre post:List Bool),B=pre++(Dj W z++post)->∀ (i x:Nat),z[i]? =some x->yZ R (pre.length+i*W) W=x % 2 ^ W
 | [],_,_,_,i,x,hx=>qV
 |y :: t,pre,post,e,i,x,hx=>by
  have e1:B=pre++(msb (y % 2 ^ W) W W++(Dj W t++post)):=by rw[e];unfold Dj;rw[Cu,AI]
  have E:=Az List.length e1;rw[Ag,Ag,rZ]at E;cases i with
  |zero=>
   obtain rfl:y=x:=by simpa using hx
   have h:=MG (y % 2 ^ W) W (Nat.mod_lt _ (Gd W)) B pre (Dj W t++post) (by rw[e1,AI]) W (Ak _);rw[Gf,Nat.pow_zero,Nat.div_one]at h;rw[Nat.zero_mul,Bi,<-h];exact RD _ _ fun j hj=>hb _ nj
  |succ i=>have h:=Ub hb t (pre++msb (y % 2 ^ W) W W) post (by rw[e1,AI]) i x (by simpa using hx);rw[Ag,rZ]at h;rw[<-h,Jf];congr 1;omega
theorem YC{W:Nat}{R B:List Bool}(hb:∀i,i<B.length->bit R i=bit B i){j:List Nat}{post:List Bool}(e:B=Dj W j++post):ED W R j.length=j.map (·% 2 ^ W):=by
 apply List.ext_getElem
 ·rw[Vu,Bc]
 ·intro i h1 h2;rw[Bc]at h2;have h:=Ub hb j [] post e i j[i] (Aw h2);rw[CX,BP]at h;simp only[ED,List.getElem_map,List.getElem_range];exact h
theorem Xn{h:List Nat}(hb:bound<=20000)(hm:Cj bound none h=true)(h0:h≠ [])(rest:List Nat):efR bound (efO bound h++rest)=(h,(efO bound h).length,0):=by
 have hs:=Idx.Qb hm h0;have L:=Hs bound h none hm
 have hp:h.Pairwise (·< ·):=by
  rw[List.pairwise_iff_getElem];have hr:=L7 bound h none hm;intro i j hi hj M;obtain⟨d,rfl⟩:∃d,j=i+1+d:=⟨j-(i+1),nj⟩;clear M
  induction d with
  |zero=>exact hr i _ _ (Aw hi) (Aw hj)
  |succ d ih=>exact Nat.lt_trans (ih nj) (hr (i+1+d) _ _ (Aw nj) (Aw hj))
 have hO:efO bound h=gZ h.length++bytesOf (FH (efW bound h.length) h):=Aa h0;generalize hW:efW bound h.length=W at hO;have hB:FH W h=Dj W h++Ew 0 (h.map (·/ 2 ^ W)):=rfl;obtain⟨B,N⟩:=ii (FH W h);rw[<-N]at hO hB;have e0:(efO bound h++rest).drop 0=gZ h.length++(bytesOf B++rest):=by rw[hO,AI];rfl
 obtain⟨i1,i2,i3⟩:=G0 (most:=bound) e0 hs.2 nj;have e1:=Ey e0;obtain⟨R,hR⟩:=ii (Bp (bytesOf B++rest));have Q:R.length=8*((B.length+7) / 8)+8*rest.length:=by rw[hR,EK,Ag,bytesOf_length];omega
 have E:∀i,i<8*((B.length+7) / 8)->bit R i=bit B i:=fun i hi=>by rw[hR,W4 (by rw[bytesOf_length];exact hi),Tj]
 have z:∀i,i<B.length->bit R i=bit B i:=fun i hi=>E i nj;have G:=Hh W h;have J:=Az List.length hB;rw[Ag,G]at J;have hL:=YC z hB;have hN:=TZ (bound:=bound) (W:=W) z nj h (Dj W h) 0 [] hB L hp (fun x _=>CA _) (fun y hy=>by simp at hy);rw[G,EF]at hN;have hP:yZ R B.length (Hi B.length)=0:=Ro _ _ fun j hj=>by unfold Hi at hj;rw[E _ nj];exact FL nj
 have hF:Hf bound h.length R=(h,(B.length+7) / 8,0):=by unfold Hf;rw[hW,hL,hN,Aa nj,Aa qT,hP,Aa qT]
 unfold efR;rw[i1,i2,i3,Aa qT,Aa nj,e1,<-hR,hF];unfold efG;rw[Aa qT];refine Prod.ext rfl (Prod.ext ?_ rfl);rw[hO,Ag,bytesOf_length];simp only;omega
end Ef
namespace Idx
open NumPut Nums Go.Proofs.YtfgdoknipbpfhaaGreatDoor.One Ef
theorem WD{bound:Nat}{bs:List Nat}(hb:bound<=20000):∀ (L:List (List Nat)) (k:Nat) (j:List (List Nat)),bs.drop k=Dl bound L->Ho bound L=true->(∀x∈L,x≠ [])->lsR bound bs L.length k j=(j++L,0)
 | [],k,j,h,_,_=>by
  have:¬k<bs.length:=fun hk=>by have:=Az List.length h;rw[AO]at this;simp[Dl]at this;omega
  rw[CX,lsR,Aa this,BX]
 |x :: L,k,j,h,hm,h0=>by
  have i:=hm;unfold Ho at i;rw[List.all_cons,Cf]at i;have h:bs.drop k=efO bound x++Dl bound L:=by rw[h];unfold Dl;rw[Cu]
  have hx:=h0 x CG;rw[AD,lsR,h,Xn hb i.1 hx,Aa qT,Aa (by simpa using hx)];simp only;rw[WD hb L _ _ (Ey h) i.2 (fun y hy=>h0 y (Ce _ hy)),AI];rfl
theorem TX{size:Nat}{ts:List Str}{L:List (List Nat)}(hb:bound<=20000)(h1:1<=size)(h2:size<=64)(hd:Gn ts=true)(hl:ts.length=L.length)(hm:Ho bound L=true)(h0:∀x∈L,x≠ []):ixR size bound (ixO size bound ts L)=((ts,L),0):=by unfold ixR ixO;rw[Zd hd h1 h2,Aa qT];simp only;rw[List.drop_left,hl,WD (bs:=Dl bound L) hb L 0 [] rfl hm h0];unfold ixF;rw[Aa qT];rfl
end Idx
namespace Body
open Go.RowKit Mem Own Canon Nums Crc Recs Opts
open Block (opE opO opA)
def DY(T L:List Nat):Nat->List Rec->List Rec
 |_,[]=> []
 |a,r :: rs=>⟨(T.getD a 0:Nat),(L.getD a 0:Nat),r.source,r.text⟩ :: DY T L (a+1) rs
theorem LB(T L:List Nat):∀ (a:Nat) (R:List Rec),(DY T L a R).length=R.length
 |_,[]=>rfl
 |a,r :: rs=>by rw[DY,AD,AD,LB]
theorem Q9(T L:List Nat):∀ (a:Nat) (R S:List Rec),DY T L a (R++S)=DY T L a R++DY T L (a+R.length) S
 |_,[],_=>by simp[DY]
 |a,r :: rs,S=>by rw[Ei,DY,DY,Q9,Ei,AD,show a+1+rs.length=a+(rs.length+1) by omega]
def Fx(T L:List Nat)(a:Nat)(R:List Rec)(i:Nat):List Rec:=DY T L a (R.take i)++R.drop i
theorem Yi(T L:List Nat)(a:Nat)(R:List Rec):Fx T L a R 0=R:=by simp[Fx,DY]
theorem pP(T L:List Nat)(a:Nat)(R:List Rec):Fx T L a R R.length=DY T L a R:=by simp[Fx]
theorem oT(T L:List Nat)(a:Nat)(R:List Rec)(i:Nat):(Fx T L a R i).length=R.length:=by unfold Fx;rw[Ag,LB,Ba,AO];omega
theorem TK:∀ (l:List Rec),(BZ l).length=l.length*4
 | []=>rfl
 |r :: l=>by show(_ :: _ :: _ :: _ :: BZ l).length=_;simp[TK l];omega
theorem Rs{l m:List Value}(h:l.length=k)(j:Nat)(u:Value):(l++m).set (k+j) u=l++m.set j u:=by subst h;rw[List.set_append_right _ _ nj,Jg]
theorem Xv{a:Nat}{R:List Rec}(h:i<R.length):((BZ (Fx T L a R i)).set (i*4) (.int .u64 (T.getD (a+i) 0:Nat))).set (i*4+1) (.int .u8 (L.getD (a+i) 0:Nat))=BZ (Fx T L a R (i+1)):=by
 have h1:R.drop i=R[i] :: R.drop (i+1):=Dg h;have h2:R.take (i+1)=R.take i++ [R[i]]:=by rw[List.take_append_getElem]
 have h3:(R.take i).length=i:=pj
 have hp:(BZ (DY T L a (R.take i))).length=i*4:=by rw[TK,LB,h3]
 unfold Fx;rw[Mt,Mt,h1,h2,Q9,h3,Mt];have h4:BZ (R[i] :: R.drop (i+1))= [.int .u64 R[i].time, .int .u8 R[i].level, .string R[i].source, .string R[i].text]++BZ (R.drop (i+1)):=rfl;have h5:BZ (DY T L (a+i) [R[i]])= [.int .u64 (T.getD (a+i) 0:Nat), .int .u8 (L.getD (a+i) 0:Nat), .string R[i].source, .string R[i].text]:=rfl;rw[h4,h5,show ∀m u,(BZ (DY T L a (R.take i))++m).set (i*4) u=BZ (DY T L a (R.take i))++m.set 0 u from fun m u=>Rs hp 0 u,Rs hp];simp
def Fc(C:List Nat)(F:List (List Nat))(k:Nat):Int:=
 if opE (F.getD k [])≠0 then opE (F.getD k [])else if opA (F.getD k [])<(F.getD k []).length then 2 else
 if(Gs (opO (F.getD k []))).2≠0 then(Gs (opO (F.getD k []))).2 else if(Gs (opO (F.getD k []))).1.length≠C.getD k 0 then 2 else 0
def Gz(C T L:List Nat)(F:List (List Nat))(k:Nat):List Rec:=if Fc C F k=0 then DY T L (C.take k).sum (Gs (opO (F.getD k []))).1 else []
def P0(C T L:List Nat)(F:List (List Nat))(k:Nat)(w:World)(e:Ending)(w':World):Prop:=
 ∃v,e= .returned (.tuple #[v, .int .i64 (Fc C F k)])/\w'.ownsRow w 43 4 v (Gz C T L F k).length (BZ (Gz C T L F k))/\Below w w w'
theorem NU{F:List (List Nat)}{w':World}{er:Int}(hE:Fc C F k=er)(h:er≠0)(hb:Below w w w'):P0 C T L F k w (.returned (.tuple #[(),er])) w':=by subst hE;refine⟨_,rfl,?_,hb⟩;rw[show Gz C T L F k= [] from Aa h];exact AE _ _ _ _
theorem aM(k:Nat):(C.take k).sum+C.getD k 0<=C.sum:=by
 rcases Nat.lt_or_ge k C.length with h|h
 ·have h1:C=C.take k++C[k] :: C.drop (k+1):=by rw[<-Dg h,EV]
  have h2:C.getD k 0=C[k]:=by rw[Am,Aw h];rfl
  have h3:C.sum=(C.take k).sum+(C[k]+(C.drop (k+1)).sum):=by
   conv=>lhs;rw[h1]
   rw[N3,GU]
  omega
 ·rw[Bw h,Am,Fk h];simp
end Body
namespace Idx
open Go.RowKit Mem Own Canon Sift
open NumPut Recs
open Go.Proofs.YtfgdoknipbpfhaaGreatDoor.Open
open Huff (Pe)
theorem own_ints{base n c:Nat}{A:Option Addr}{y:List Nat}(h:w.ownsRow base 3 1 (.slice A n c) n (cZ .i64 y))(hn:y.length=n):Row w w A n 1 (Ij .i64 (y.map Int.ofNat)):=
 Row.of_own h rfl fun i j hi hj=>by
  obtain rfl:j=0:=nj
  unfold cZ;rw[CO,Bi,BI,Aw nj];unfold Ij;rw[Am,BI,Aw nj];rfl
set_option maxHeartbeats 1000000 in
set_option maxRecDepth 100000 in
theorem OT(w:World)(p1 p2:Nat)(vT vL Q aa:Value)(vals z:List Value)(ts:List Str)(ls:List (List Nat))(h1:IxAt w p1 vT vL vals ts ls)(h2:IxAt w p2 Q aa z ts ls)(al:ts.length<=2000000)(av:ls.length<=2000000)(ae:∀l∈ls,l.length<=2000000):
 Calls Tryz.prog 21 #[.agg #[vT,vL], .agg #[Q,aa]] w fun e w'=>e= .returned (.bool true)/\Below w w w':=by
 have t1:=h1.t;have t2:=h2.t;have l1:=h1.l;have l2:=h2.l;obtain⟨n,hn⟩:=ii ts.length;obtain⟨m,hm⟩:=ii ls.length;rw[<-hn]at t1 t2 al;rw[<-hm]at l1 l2 av;obtain⟨A1,c1,rfl⟩:=bZ t1;obtain⟨A2,c2,rfl⟩:=bZ t2;obtain⟨B1,d1,rfl⟩:=bZ l1;obtain⟨B2,d2,rfl⟩:=bZ l2;have DS:=hid (fun wx (hb:Below w w wx)=>bF wx A1 A2 n n c1 c2 ts ts hn.symm hn.symm nj (((Jo t1).below hb).mono hb.size) (((Jo t2).below hb).mono hb.size));have aq:=h1.len;have am:=h2.len;have DI:=hid (fun wx (hb:Below w w wx) (i:Nat) (C1:Option Addr) (k e1:Nat) (C2:Option Addr) (e2:Nat) (j:List Nat) (g1:vals[i]? =some (.slice C1 k e1)) (g2:z[i]? =some (.slice C2 k e2)) (gi:ls[i]? =some j) (q1:j.length=k)=>Pe wx C1 C2 k e1 e2 wx wx (j.map Int.ofNat) (by rw[Bc];exact q1) (by have:=ae j (Be gi);omega) (((own_ints (base:=p1) (by have h:=h1.r i _ j g1 gi;rw[q1]at h;exact h) q1).below hb).mono hb.size) (((own_ints (base:=p2) (by have h:=h2.r i _ j g2 gi;rw[q1]at h;exact h) q1).below hb).mono hb.size));have HV:Hid (∀i,i<m->∃C1 k1 e1 C2 e2 j,vals[i]? =some (.slice C1 k1 e1)/\z[i]? =some (.slice C2 k1 e2)/\ls[i]? =some j/\j.length=k1):=fun i hi=>by obtain⟨j,gi⟩:∃j,ls[i]? =some j:=⟨_,Aw nj⟩;obtain⟨x1,g1⟩:∃x,vals[i]? =some x:=⟨_,Aw nj⟩;obtain⟨x2,g2⟩:∃x,z[i]? =some x:=⟨_,Aw nj⟩;obtain⟨C1,e1,rfl⟩:=bZ (h1.r i _ j g1 gi);obtain⟨C2,e2,rfl⟩:=bZ (h2.r i _ j g2 gi);exact⟨C1,_,e1,C2,e2,j,g1,g2,gi,rfl⟩
 have af:=hid l1;have Z:=hid l2;clear h1 h2 t1 t2 l1 l2 hn hm ae aq am;go_enter Tryz.func21,Tryz.ntmps21;go_wp2_with fail;have U:Blk ((w.alloc (.cells #[.slice A1 n c1, .slice B1 m d1] 53)).alloc (.cells #[.slice A2 n c2, .slice B2 m d2] 53)) w 53 #[.slice A1 n c1, .slice B1 m d1]:=(Blk.made _ _ _).alloc _;have ah:Blk ((w.alloc (.cells #[.slice A1 n c1, .slice B1 m d1] 53)).alloc (.cells #[.slice A2 n c2, .slice B2 m d2] 53)) (w.heap.size+1) 53 #[.slice A2 n c2, .slice B2 m d2]:=Blk.made_at _ _ _ qT;have ac:Below w w ((w.alloc (.cells #[.slice A1 n c1, .slice B1 m d1] 53)).alloc (.cells #[.slice A2 n c2, .slice B2 m d2] 53)):=rF
 generalize (w.alloc (.cells #[.slice A1 n c1, .slice B1 m d1] 53)).alloc (.cells #[.slice A2 n c2, .slice B2 m d2] 53)=w2 at *;have Y:=hid U;have ag:=hid ah;have J:=hid ac;clear U ah ac;refine(DS.out w2 J.out).mono ?_;rintro e w3 ⟨rfl,q0,E⟩;have au:Hid (Below w w w3):=by rw[E];exact below_drewN J.out q0
 have N:Hid (Blk w3 w 53 #[.slice A1 n c1, .slice B1 m d1]):=by rw[E];exact Y.out.drewN q0
 have ab:Hid (Blk w3 (w.heap.size+1) 53 #[.slice A2 n c2, .slice B2 m d2]):=by rw[E];exact ag.out.drewN q0
 have k1:=N.out.ia 1;have k2:=ab.out.ia 1;have gm:((m:Int) != (m:Int))=false:=qT
 clear E DS Y ag J;go_wp2_with fail;go_loopw [5] (fun iv wr=>∃i:Nat,i<=m/\iv= .int .i64 i/\Hid (∃q,wr=w3.drewN q)) (fun iv _=>m-(intOf iv).toNat)
 case atStart=>exact⟨0,nj,rfl,0,rfl⟩
 case round=>
  obtain⟨i,hi,rfl,HQ⟩:=hrel;clear k1 k2;have G:Hid (Below w w wr):=by obtain⟨q,hq⟩:=HQ.out;rw[hq];exact below_drewN au.out q
  have ai:Hid (Blk wr w 53 #[.slice A1 n c1, .slice B1 m d1]):=by obtain⟨q,hq⟩:=HQ.out;rw[hq];exact N.out.drewN q
  have ar:Hid (Blk wr (w.heap.size+1) 53 #[.slice A2 n c2, .slice B2 m d2]):=by obtain⟨q,hq⟩:=HQ.out;rw[hq];exact ab.out.drewN q
  have ak:∀q2,Hid (∃q,wr.drewN q2=w3.drewN q):=fun q2=>by obtain⟨q,hq⟩:=HQ.out;exact⟨q+q2,by rw[hq,Fq]⟩
  have k1:=ai.out.ia 1;have k2:=ar.out.ia 1;by_cases aj:i<m
  ·have gi:=ic ((i:Int)<m);have az:=ic (i<m);obtain⟨C1,k,e1,C2,e2,j,g1,g2,g3,g4⟩:=HV.out i aj;have L:=eZ af.out (fun y hy=>G.out.block y (Aj af.out y hy).2);have M:=eZ Z.out (fun y hy=>G.out.block y (Aj Z.out y hy).2);obtain⟨aw,ay,hA1,_,_⟩:=L.form nj;injection hA1 with r1 r2 r3;subst r1 r3;obtain⟨an,ax,hA2,_,_⟩:=M.form nj;injection hA2 with r1 r2 r3;subst r1 r3;have x1:wr.cell? ⟨aw,i,none⟩=some (.slice C1 k e1):=(by rw[L.cellAt i nj];exact g1);have x2:wr.cell? ⟨an,i,none⟩=some (.slice C2 k e2):=(by rw[M.cellAt i nj];exact g2);have y0:(0:Int)<=(i:Int):=nj;have y1:(i:Int)<(m:Int):=nj;have D:=hid (fun q=>DI.out (wr.drewN q) (below_drewN G.out q) i C1 k e1 C2 e2 j g1 g2 g3 g4);clear L M g1 g2 g3 g4;go_wp2_with fail;go_quiet ((go_at_call 35;exact Calls.quiet_of (D.out _)));go_wp2_with fail;go_roundw
   case measure=>exact jq
   case rel=>go_light;exact⟨i+1,nj,iw,(ak _).out⟩
  ·obtain rfl:i=m:=by omega
   have gi:=ig ((i:Int)<i);go_wp2_with fail;go_ret;exact⟨rfl,G.out⟩
end Idx
end Go.Proofs.YtfgdoknipbpfhaaGreatDoor
