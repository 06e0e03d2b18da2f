/- Plain: numbers, colu -/
import Derived.Test.YtfgdoknipbpfhaaGreatDoorZBodyBlocks33
import Derived.Test.YtfgdoknipbpfhaaGreatDoorZBodyBlocks40
namespace Go.Proofs.YtfgdoknipbpfhaaGreatDoor
variable{bound d i j k x:Nat}{C L T a:List Nat}{w:World}
namespace Nums
open NumPut Go.Proofs.YtfgdoknipbpfhaaGreatDoor.One
theorem GO{bs rest:List Nat}{most:Nat}(h:bs.drop k=fZ x++rest)(hx:x<=most)(hm:most<=1000000000):AY most bs k 0=x/\zZ most bs k 0=k+(fZ x).length/\AJ most bs k 0=0:=by unfold AY zZ AJ;rw[h,NE hx hm];simp
theorem lL{bs rest:List Nat}(h:bs.drop k=fZ x++rest)(hx:x<18446744073709551616):G5 bs k 0=x/\Ip bs k 0=k+(fZ x).length/\Im bs k 0=0:=by unfold G5 Ip Im;rw[h,UN hx];simp
theorem iO{bs rest:List Nat}(h:bs.drop k=x :: rest):Gl bs k 0=x/\takeA bs k 0 1=k+1/\BK bs k 0 1=0/\bs.drop (k+1)=rest:=by
 have hl:1<=bs.length-k:=by have:=Aw List.length h;rw[AO,AD]at this;omega
 have hb:bs.getD k 0=x:=by
  have:(bs.drop k)[0]? =some x:=nO
  rw[Ik,Bf]at this;rw[Am,this];rfl
 unfold Gl takeA BK;refine⟨by rw[Aa oK,hb],mR,mR,?_⟩;rw[<-List.drop_drop,h];rfl
theorem gW{bs rest:List Nat}(h:bs.drop k=a++rest):Bu bs k 0 a.length=a/\takeA bs k 0 a.length=k+a.length/\BK bs k 0 a.length=0:=by
 have hl:a.length<=bs.length-k:=by have:=Aw List.length h;rw[AO,Ae]at this;omega
 unfold Bu takeA BK;refine⟨by rw[Aa oK,Aa mw,h,List.take_left],mR,mR⟩
end Nums
namespace Recs
open NumPut Nums Go.Proofs.YtfgdoknipbpfhaaGreatDoor.One
theorem fV(h:d<18446744073709551616):GA (FN d)=d:=by unfold GA FN;split<;>split<;>omega
theorem SV{bs rest:List Nat}:∀ (ts:List Nat) (at_ i:Nat) (j:List Nat),bs.drop at_=Ca stepT i ts++rest->i<18446744073709551616->(∀t∈ts,t<18446744073709551616)->FD ts.length bs at_ i j=(j++ts,at_+(Ca stepT i ts).length,0)
 | [],at_,i,j,_,_,_=>by simp[FD,Ca]
 |t :: ts,at_,i,j,h,hw,ht=>by
  have h0:=ht t Cu;rw[Ca,AE]at h;have h:bs.drop at_=fZ (FN (Iw t i))++(Ca stepT t ts++rest):=h;obtain⟨e1,e2,e3⟩:=lL h (Na (MZ _ _));have ev:(i+GA (FN (Iw t i))) % 18446744073709551616=t:=by rw[fV (MZ _ _)];unfold Iw;omega
  rw[AD,FD,e1,e2,e3,Aa oK,ev,SV ts _ t _ (Ek h) h0 (fun x hx=>ht x (BR _ hx)),Ca,Ae];simp[stepT,Nat.add_assoc]
theorem UF(x:Nat):∀l:List Nat,l.take (lead x l)=List.replicate (lead x l) x
 | []=>by simp[lead]
 |y :: t=>by
  rw[lead];split
  ·rename_i h;rw[List.take_succ_cons,UF x t,List.replicate_succ,h]
  ·simp
theorem Us(x:Nat):∀l:List Nat,(l.drop (lead x l)).head?≠some x
 | []=>by simp[lead]
 |y :: t=>by
  rw[lead];split
  ·rw[List.drop_succ_cons];exact Us x t
  ·rename_i h;simpa using h
theorem SN{bs rest:List Nat}{n:Nat}(hn:n<=1000000000):∀ (f:Nat) (l:List Nat) (at_:Nat) (i:List Nat),l.length<=f->i.length+l.length=n->bs.drop at_=lvB l++rest->(∀x,l.head?=some x->i.getLast?≠some x)->EW f n bs at_ i=(i++l,at_+(lvB l).length,0)
 |f,[],at_,i,_,hs,_,_=>by rw[Tl (by simp at hs;omega),lvB];simp
 |f+1,x :: t,at_,i,hf,hs,h,hx=>by
  have hl:=Pj x t;simp only[List.length_cons]at hf hs;rw[lvB,DH,AE]at h;obtain⟨b1,b2,b3,b4⟩:=iO h;obtain⟨i1,i2,i3⟩:=GO (most:=n-i.length) b4 mw mw;have ho:Hx (n-i.length) bs at_=(x,lead x t+1,at_+1+(fZ (lead x t+1)).length,0):=by unfold Hx;rw[b1,b2,b3,i1,i2,i3]
  have he:Lg i (x,lead x t+1,at_+1+(fZ (lead x t+1)).length,0)=0:=by
   unfold Lg;rw[Aa oK,Aa];rintro(h0|h0)
   ·simp at h0
   ·exact hx x rfl h0
  rw[EW,Aa mw,ho,he,Aa oK];simp only;rw[SN hn f (t.drop (lead x t)) _ (i++List.replicate (lead x t+1) x) mP (by rw[Ae,Di,AO];omega) (Ek b4) (fun y hy=>by rw[List.getLast?_append,List.getLast?_replicate,Aa mw];intro e;have:x=y:=(by simpa using e);subst this;exact Us _ _ hy)];rw[lvB,AE];refine Prod.ext ?_ (Prod.ext ?_ rfl)
  ·simp only;rw[List.replicate_succ,DH,<-UF,EA]
  ·simp only[List.length_cons,List.length_append];omega
theorem bH{l:List Rec}(h:∀r∈l,B8 r):∀t∈Bk l,t<18446744073709551616:=fun t ht=>by obtain⟨r,hr,rfl⟩:=Ck.1 ht;obtain⟨h1,h2,_,_⟩:=h r hr;omega
theorem lU{l:List Rec}(h:∀r∈l,B8 r)(hn:l.length<=20000):DV l.length (C9 l)=(Bk l,Bz l,(C9 l).length,0):=by
 have ht:=SV (bs:=C9 l) (rest:=lvB (Bz l)) (Bk l) 0 0 [] rfl mw (bH h);have hd:(C9 l).drop (0+(Ca stepT 0 (Bk l)).length)=lvB (Bz l)++ []:=by unfold C9;rw[Cb,List.drop_left,BZ]
 have j:(Bk l).length=l.length:=by unfold Bk;rw[Bb]
 have i:(Bz l).length=l.length:=by unfold Bz;rw[Bb]
 have hv:=SN (n:=l.length) mw l.length (Bz l) _ [] mw (by simp[i]) hd (fun x _=>by simp);rw[j]at ht;unfold DV;rw[ht];unfold JP;rw[Aa oK];simp only;rw[hv];unfold LB;rw[Aa oK];simp only[List.nil_append];refine Prod.ext rfl (Prod.ext rfl (Prod.ext ?_ rfl));unfold C9;simp only[List.length_append];omega
end Recs
namespace Crc
theorem PG(b:List Nat):Cw (b++CJ (Ce b))=0/\Bh (b++CJ (Ce b))=b:=by
 have ht:(CJ (Ce b)).length=4:=rfl;have hl:(b++CJ (Ce b)).length-4=b.length:=mW
 have h4:4<=(b++CJ (Ce b)).length:=mW
 have hC:Cw (b++CJ (Ce b))=0:=by unfold Cw;rw[Aa mw,hl,List.take_left,List.drop_left,Ab rfl]
 exact⟨hC,by unfold Bh;rw[Ab hC,hl,List.take_left]⟩
end Crc
namespace Idx
open NumPut Nums Go.Proofs.YtfgdoknipbpfhaaGreatDoor.One
theorem TU(s:Str):toS (GY s)=s:=by
 unfold toS GY;rw[List.map_map]
 conv=>rhs;rw[<-List.map_id s]
 exact J4 fun x _=>oK
theorem Ue{bs rest:List Nat}{s:Str}(h:bs.drop k=CX s++rest)(hs:s.length<=25):Ey 25 bs k 0=GY s/\Dw 25 bs k 0=k+(CX s).length/\Dv 25 bs k 0=0:=by
 have hl:(GY s).length=s.length:=by unfold GY;rw[Bb]
 have hp:Cf 25 (bs.drop k)=(GY s,(CX s).length,0):=by rw[h];unfold Cf CX;rw[AE,NE hs mw];simp only[List.length_append,hl,List.drop_left];rw[Aa oK,Aa mw,<-hl,List.take_left]
 unfold Ey Dw Dv;rw[hp];simp
theorem SL:∀a b:Str,a.take (Bj a b)=b.take (Bj a b)
 | [],b=>by simp[Bj]
 |a :: s,[]=>by simp[Bj]
 |a :: s,b :: t=>by
  rw[Bj];split
  ·rename_i h;rw[List.take_succ_cons,List.take_succ_cons,SL s t,h]
  ·simp
theorem TJ:∀ {a b:Str},a<b->Bj a b<b.length
 | [],[],h=>absurd h (Ig _)
 | [],b :: t,_=>by simp[Bj]
 |a :: s,[],h=>absurd h oK
 |a :: s,b :: t,h=>by
  rw[Bj];split
  ·rename_i e;subst e;rw[List.cons_lt_cons_iff]at h;rcases h with h|h
   ·exact absurd h (UInt8.lt_irrefl _)
   ·have:=TJ h.2;rw[AD];omega
  ·simp
theorem MO{i x:Str}(h:Ec i x=true):1<=x.length/\x.length<=25/\i<x:=by unfold Ec at h;rw[BV,BV,decide_eq_true_iff,decide_eq_true_iff,decide_eq_true_iff]at h;exact h
theorem gL{bs rest:List Nat}{i x:Str}(h:bs.drop k=CX x++rest)(hm:Ec i x=true):Ex bs i true k=(x,k+(CX x).length,0):=by
 obtain⟨m1,m2,m3⟩:=MO hm;obtain⟨e1,e2,e3⟩:=Ue h m2;unfold Ex nxN nxA nxE;simp only[if_true];rw[e1,e2,e3,TU];unfold nxS;rw[Aa oK,List.take_zero,Fq,Aa];rintro(h0|h0|h0)
 ·rw[h0]at m1;simp at m1
 ·rw[hm]at h0;cases h0
 ·cases h0.1
theorem lB{bs rest:List Nat}{i x:Str}(h:bs.drop k=fZ (Bj i x)++(CX (x.drop (Bj i x))++rest))(hw:i.length<=25)(hm:Ec i x=true):Ex bs i false k=(x,k+(fZ (Bj i x)).length+(CX (x.drop (Bj i x))).length,0):=by
 obtain⟨m1,m2,m3⟩:=MO hm;have ha:=KU i x;have j:=TJ m3;obtain⟨i1,i2,i3⟩:=GO (most:=i.length) h ha.1 mw;obtain⟨e1,e2,e3⟩:=Ue (Ek h) mP;unfold Ex nxN nxA nxE;simp only[Bool.false_eq_true,if_false];rw[i1,i2,i3,e1,e2,e3,TU];unfold nxS;rw[SL,EA,Aa oK,Aa];rintro(h0|h0|h0)
 ·have:=Aw List.length h0;rw[AO,CZ]at this;omega
 ·rw[hm]at h0;cases h0
 ·exact h0.2 rfl
theorem TY{bs:List Nat}:∀ (t:List Str) (j:Str) (k:Nat) (i:List Str),i.getLast?.getD []=j->j.length<=25->bs.drop k=DY j t->k<=bs.length->CY j t=true->CP bs t.length false k i=(i++t,0)
 | [],j,k,i,_,_,h,_,_=>by
  have:¬k<bs.length:=fun hk=>by have:=Aw List.length h;rw[AO,DY,CZ]at this;omega
  show(i,Gn bs k 0)=_;unfold Gn;rw[Aa this,BZ]
 |x :: t,j,k,i,ha,hw,h,hk,hr=>by rw[CY,BV]at hr;obtain⟨m1,m2,m3⟩:=MO hr.1;rw[DY,AE]at h;have hn:=lB h hw hr.1;have h2:=Ek (Ek h);have hl:=Aw List.length h;simp only[List.length_drop,List.length_append]at hl;rw[AD,CP,ha,hn,Aa oK];simp only;rw[TY t x _ (i++ [x]) oK m2 h2 mw hr.2,AE];rfl
theorem kM{c h:List Str}(h0:c≠ [])(hr:CY (h.getLast?.getD []) c=true):CP (rZ c) c.length true 0 h=(h++c,0):=by
 cases c with
 |nil=>exact absurd rfl h0
 |cons x t=>rw[CY,BV]at hr;obtain⟨m1,m2,m3⟩:=MO hr.1;have hn:=gL (bs:=rZ (x :: t)) (k:=0) (rest:=DY x t) rfl hr.1;rw[AD,CP,hn,Aa oK];simp only;rw[TY t x _ (h++ [x]) oK m2 (by rw[Cb];exact List.drop_left) (by rw[rZ,Ae];omega) hr.2,AE];rfl
theorem SD:∀ (a b:List Str) (i:Str),CY i (a++b)=true->CY i a=true/\CY (a.getLast?.getD i) b=true
 | [],b,i,h=>⟨rfl,h⟩
 |x :: a,b,i,h=>by
  rw[DH,CY,BV]at h;obtain⟨h1,h2⟩:=SD a b x h.2;refine⟨by rw[CY,BV];exact⟨h.1,h1⟩,?_⟩;cases a with
  |nil=>exact h2
  |cons y s=>simpa[List.getLast?_cons]using h2
theorem aL(a b:List Str):(a++b).getLast?.getD []=b.getLast?.getD (a.getLast?.getD []):=by rw[List.getLast?_append];cases b.getLast?<;>rfl
theorem Tz{bs rest:List Nat}{size:Nat}(h1:1<=size):∀ (f:Nat) (l:List Str) (k:Nat) (i:List Str),l.length<=f->bs.drop k=(Df size f l).flatMap rZ++rest->CY (i.getLast?.getD []) l=true->
 bkR size bs ((Df size f l).map fun c=>(rZ c).length) l.length k i=(i++l,k+((Df size f l).flatMap rZ).length,0)
 |0,l,k,i,hf,_,_=>by obtain rfl:l= []:=Gf mw;simp[Df,bkR]
 |f+1,l,k,i,hf,h,hr=>by
  rw[Df]at h ⊢;by_cases e:l= []
  ·subst e;simp[bkR]
  ·have hp:1<=l.length:=Fv.2 e;rw[Aa e]at h ⊢;rw[Cm,AE]at h;obtain⟨t1,t2,t3⟩:=gW h;have hc:l.take size≠ []:=fun h0=>by have:=Aw List.length h0;rw[AZ,CZ]at this;omega
   have j:=SD (l.take size) (l.drop size) _ (by rw[EA];exact hr);have hb:=kM hc j.1;rw[AZ]at hb;rw[Cl,bkR,t1,t2,t3,Aa oK,hb,Aa oK];simp only;have ih:=Tz h1 f (l.drop size) (k+(rZ (l.take size)).length) (i++l.take size) mP (Ek h) (by rw[aL];exact j.2);rw[AO]at ih;rw[ih,AE,EA,Cm,Ae,Nat.add_assoc]
theorem SA{bs rest:List Nat}{size n:Nat}(h1:1<=size):∀ (f g:Nat) (l:List Str) (k x:Nat) (i:List Nat),l.length<=f->l.length<=g->l.length=n-x->bs.drop k=(Df size g l).flatMap (fun c=>fZ (rZ c).length)++rest->(∀c∈Df size g l,(rZ c).length<=2000)->
 szR n size bs f k x i=(i++(Df size g l).map (fun c=>(rZ c).length),k+((Df size g l).flatMap (fun c=>fZ (rZ c).length)).length,0)
 |f,g,[],k,x,i,_,_,hn,_,_=>by
  have hx:n<=x:=by simp at hn;omega
  rw[RJ hx];cases g with
  |zero=>simp[Df]
  |succ g=>simp[Df]
 |0,_,y :: t,_,_,_,hf,_,_,_,_=>absurd hf oK
 |_+1,0,y :: t,_,_,_,_,hg,_,_,_=>absurd hg oK
 |f+1,g+1,y :: t,k,x,i,hf,hg,hn,h,hb=>by rw[Df,Aa oK]at h hb ⊢;rw[Cm,AE]at h;obtain⟨i1,i2,i3⟩:=GO (most:=2000) h (hb _ Cu) mw;simp only[List.length_cons]at hf hg hn;rw[szR,Aa mw,i1,i2,i3,Aa oK];rw[SA h1 f g ((y :: t).drop size) _ (x+size) _ (by rw[AO,AD];omega) (by rw[AO,AD];omega) (by rw[AO,AD];omega) (Ek h) (fun c hc=>hb c (BR _ hc))];rw[Cl,AE,Cm,Ae,Nat.add_assoc];rfl
theorem T9{size:Nat}:∀ (f:Nat) (l c:List Str),c∈Df size f l->(∀s∈c,s∈l)/\c.length<=size
 |0,_,c,h=>by simp[Df]at h
 |f+1,l,c,h=>by
  rw[Df]at h;split at h
  ·cases h
  ·rcases AM.1 h with rfl|h
   ·exact⟨fun s hs=>CV hs,mQ⟩
   ·obtain⟨a,b⟩:=T9 f _ c h;exact⟨fun s hs=>BY (a s hs),b⟩
theorem kC{size:Nat}{l:List Str}(hm:FM l=true)(h1:1<=size)(h2:size<=64)(rest:List Nat):FC size (C8 size l++rest)=(l,(C8 size l).length,0):=by
 have hs:=Jc hm;unfold FM at hm;rw[BV,decide_eq_true_iff]at hm;have e0:(C8 size l++rest).drop 0=fZ l.length++((Gw size l).flatMap (fun c=>fZ (rZ c).length)++((Gw size l).flatMap rZ++rest)):=by unfold C8;simp[List.append_assoc]
 obtain⟨i1,i2,i3⟩:=GO (most:=1048576) e0 hm.2 mw;have e1:=Ek e0;have hz:=SA (n:=l.length) h1 l.length l.length l _ 0 [] (Ak _) (Ak _) rfl e1 (fun c hc=>by obtain⟨a,b⟩:=T9 _ _ _ hc;have:=Mi (l:=c) (fun s hs'=>(hs s (a s hs')).2);omega);have hS:Gv size (C8 size l++rest)=((Gw size l).map (fun c=>(rZ c).length),0+(fZ l.length).length+((Gw size l).flatMap (fun c=>fZ (rZ c).length)).length,0):=by unfold Gv;rw[i1,i2,i3,Aa oK,hz];rfl
 have hk:=Tz h1 l.length l _ [] (Ak _) (Ek e1) hm.1;unfold FC;rw[hS,Aa oK,i1];simp only;have hk:bkR size (C8 size l++rest) ((Gw size l).map fun c=>(rZ c).length) l.length (0+(fZ l.length).length+((Gw size l).flatMap (fun c=>fZ (rZ c).length)).length) []=_:=hk;rw[hk];refine Prod.ext (Fq _) (Prod.ext ?_ rfl);show _=(C8 size l).length;unfold C8;simp only[List.length_append];show _+((Gw size l).flatMap rZ).length=_;omega
end Idx
namespace Ef
open Huff NumPut Nums Go.Proofs.YtfgdoknipbpfhaaGreatDoor.One
theorem ZX{b:List Nat}(h:i<8*a.length):bit (Bi (a++b)) i=bit (Bi a) i:=by rw[Nc mW,Nc h];simp only[List.getD_eq_getElem?_getD];rw[GR mw]
theorem TL{a b:List Bool}(i:Nat):∀m,(∀j,j<m->bit a (i+j)=bit b (i+j))->yZ a i m=yZ b i m
 |0,_=>rfl
 |m+1,h=>by rw[yZ,yZ,TL i m (fun j hj=>h j mw),h m mw]
theorem TB{a:List Bool}(i:Nat):∀m,(∀j,j<m->bit a (i+j)=0)->yZ a i m=0
 |0,_=>rfl
 |m+1,h=>by rw[yZ,TB i m (fun j hj=>h j mw),h m mw]
theorem eT(pre post:List Bool){x:List Bool}(h:j<x.length):bit (pre++(x++post)) (pre.length+j)=bit x j:=by unfold bit;simp only[List.getD_eq_getElem?_getD];rw[IT mw,IS,GR h]
theorem dR(h:j<d):bit (unary d) j=0:=by unfold bit unary;rw[Am,GR pf,List.getElem?_replicate,Ab h];rfl
theorem kR(d:Nat):bit (unary d) d=1:=by unfold bit unary;rw[Am,IT oK];simp
theorem UM{bs:List Bool}:∀ (d k f:Nat),(∀j,j<d->bit bs (k+j)=0)->bit bs (k+d)=1->d<f->unC bs k f=d
 |_,_,0,_,_,h=>absurd h mw
 |0,k,f+1,_,h1,_=>by rw[Bf]at h1;rw[unC,Ab h1]
 |d+1,k,f+1,h0,h1,hf=>by have h:=h0 0 mw;rw[Bf]at h;rw[unC,Aa (by rw[h];decide),UM d (k+1) f (fun j hj=>by have:=h0 (j+1) mw;rwa [show k+1+j=k+(j+1) by omega]) (by rwa [show k+1+d=k+(d+1) by omega]) mw]
theorem ZR{bs:List Bool}(h0:∀j,j<d->bit bs (k+j)=0)(h1:bit bs (k+d)=1)(hl:k+d<bs.length):unV bs k=d/\Huff.unE bs k=0/\unA bs k=k+d+1:=by have hd:unD bs k=d:=UM d k _ h0 h1 mw;unfold unV Huff.unE unA;rw[hd,Ab hl,Ab hl,Ab hl];exact⟨rfl,rfl,rfl⟩
theorem To{bound W:Nat}{R B:List Bool}(hb:∀i,i<B.length->bit R i=bit B i)(hl:B.length<=R.length):∀ (G:List Nat) (pre:List Bool) (h:Nat) (E:List Nat),B=pre++DQ h (G.map (·/ 2 ^ W))->(∀x∈G,x<bound)->G.Pairwise (·< ·)->(∀x∈G,h<=x / 2 ^ W)->(∀y,E.getLast?=some y->∀x∈G,y<x)->
 rowN bound W R (G.map (·% 2 ^ W)) pre.length h E=(E++G,B.length,0)
 | [],pre,h,E,e,_,_,_,_=>by
  have e:B=pre:=by rw[e];simp[DQ]
  subst e;simp[rowN]
 |x :: t,pre,h,E,e,h1,h2,h3,h4=>by
  have hx:=h3 x Cu;rw[Fp]at h2;rw[Cl,DQ]at e;have L:=Aw List.length e;rw[Ae,Ae,Jv]at L;have J:∀j,j<x / 2 ^ W-h+1->bit R (pre.length+j)=bit (unary (x / 2 ^ W-h)) j:=fun j hj=>by rw[hb _ mw,e,eT _ _ (by rw[Jv];exact hj)]
  obtain⟨u1,u2,u3⟩:=ZR (bs:=R) (k:=pre.length) (d:=x / 2 ^ W-h) (fun j hj=>by rw[J j mw,dR hj]) (by rw[J _ mw,kR]) mw;have hh:h+(x / 2 ^ W-h)=x / 2 ^ W:=mw
  have hv:x / 2 ^ W*2 ^ W+x % 2 ^ W=x:=by rw[Nat.mul_comm];exact Nat.div_add_mod x (2 ^ W)
  rw[Cl,rowN,u1,u2,u3,hh,hv,Aa oK,Aa,Aa (by have:=h1 x Cu;omega)]
  ·have ih:=To hb hl t (pre++unary (x / 2 ^ W-h)) (x / 2 ^ W) (E++ [x]) (by rw[AE];exact e) (fun y hy=>h1 y (BR _ hy)) h2.2 (fun y hy=>Nat.div_le_div_right (Nat.le_of_lt (h2.1 y hy))) (fun y hy z hz=>by have:x=y:=(by simpa using hy);subst this;exact h2.1 z hz);rw[Ae,Jv,<-Nat.add_assoc]at ih;rw[ih,AE];rfl
  ·rintro⟨ha,hc⟩;cases hz:E.getLast? with
   |none=>exact ha (List.getLast?_eq_none_iff.1 hz)
   |some y=>have:=h4 y hz x Cu;rw[hz,Gb]at hc;omega
theorem UA{W:Nat}{R B:List Bool}(hb:∀i,i<B.length->bit R i=bit B i):∀ (z:List Nat) (pre post:List Bool),B=pre++(Da W z++post)->∀ (i x:Nat),z[i]? =some x->yZ R (pre.length+i*W) W=x % 2 ^ W
 | [],_,_,_,i,x,hx=>oM
 |y :: t,pre,post,e,i,x,hx=>by
  have e1:B=pre++(msb (y % 2 ^ W) W W++(Da W t++post)):=by rw[e];unfold Da;rw[Cm,AE]
  have E:=Aw List.length e1;rw[Ae,Ae,pZ]at E;cases i with
  |zero=>
   obtain rfl:y=x:=by simpa using hx
   have h:=Mc (y % 2 ^ W) W (Nat.mod_lt _ (FH W)) B pre (Da W t++post) (by rw[e1,AE]) W (Ak _);rw[Gx,Nat.pow_zero,Nat.div_one]at h;rw[Nat.zero_mul,Bf,<-h];exact TL _ _ fun j hj=>hb _ mw
  |succ i=>have h:=UA hb t (pre++msb (y % 2 ^ W) W W) post (by rw[e1,AE]) i x (by simpa using hx);rw[Ae,pZ]at h;rw[<-h,IR];congr 1;omega
theorem iV{W:Nat}{R B:List Bool}(hb:∀i,i<B.length->bit R i=bit B i){j:List Nat}{post:List Bool}(e:B=Da W j++post):Ej W R j.length=j.map (·% 2 ^ W):=by
 apply List.ext_getElem
 ·rw[Qq,Bb]
 ·intro i h1 h2;rw[Bb]at h2;have h:=UA hb j [] post e i j[i] (Az h2);rw[CZ,Cb]at h;simp only[Ej,List.getElem_map,List.getElem_range];exact h
theorem cM{h:List Nat}(hb:bound<=20000)(hm:BX bound none h=true)(h0:h≠ [])(rest:List Nat):efR bound (efO bound h++rest)=(h,(efO bound h).length,0):=by
 have hs:=Idx.PC hm h0;have N:=G0 bound h none hm
 have hp:h.Pairwise (·< ·):=by
  rw[List.pairwise_iff_getElem];have hr:=LJ bound h none hm;intro i j hi hj L;obtain⟨d,rfl⟩:∃d,j=i+1+d:=⟨j-(i+1),mw⟩;clear L
  induction d with
  |zero=>exact hr i _ _ (Az hi) (Az hj)
  |succ d ih=>exact Nat.lt_trans (ih mw) (hr (i+1+d) _ _ (Az mw) (Az hj))
 have hO:efO bound h=fZ h.length++bytesOf (Fh (efW bound h.length) h):=Aa h0;generalize hW:efW bound h.length=W at hO;have hB:Fh W h=Da W h++DQ 0 (h.map (·/ 2 ^ W)):=rfl;obtain⟨B,M⟩:=ii (Fh W h);rw[<-M]at hO hB;have e0:(efO bound h++rest).drop 0=fZ h.length++(bytesOf B++rest):=by rw[hO,AE];rfl
 obtain⟨i1,i2,i3⟩:=GO (most:=bound) e0 hs.2 mw;have e1:=Ek e0;obtain⟨R,hR⟩:=ii (Bi (bytesOf B++rest));have Q:R.length=8*((B.length+7) / 8)+8*rest.length:=by rw[hR,Es,Ae,bytesOf_length];omega
 have G:∀i,i<8*((B.length+7) / 8)->bit R i=bit B i:=fun i hi=>by rw[hR,ZX (by rw[bytesOf_length];exact hi),RY]
 have z:∀i,i<B.length->bit R i=bit B i:=fun i hi=>G i mw;have E:=G7 W h;have J:=Aw List.length hB;rw[Ae,E]at J;have hL:=iV z hB;have hN:=To (bound:=bound) (W:=W) z mw h (Da W h) 0 [] hB N hp (fun x _=>Cr _) (fun y hy=>by simp at hy);rw[E,Fq]at hN;have hP:yZ R B.length (GV B.length)=0:=TB _ _ fun j hj=>by unfold GV at hj;rw[G _ mw];exact Fi mw
 have hF:GT bound h.length R=(h,(B.length+7) / 8,0):=by unfold GT;rw[hW,hL,hN,Aa mw,Aa oK,hP,Aa oK]
 unfold efR;rw[i1,i2,i3,Aa oK,Aa mw,e1,<-hR,hF];unfold efG;rw[Aa oK];refine Prod.ext rfl (Prod.ext ?_ rfl);rw[hO,Ae,bytesOf_length];simp only;omega
end Ef
namespace Idx
open NumPut Nums Go.Proofs.YtfgdoknipbpfhaaGreatDoor.One Ef
theorem Sp{bound:Nat}{bs:List Nat}(hb:bound<=20000):∀ (L:List (List Nat)) (k:Nat) (j:List (List Nat)),bs.drop k=Dd bound L->GU bound L=true->(∀x∈L,x≠ [])->lsR bound bs L.length k j=(j++L,0)
 | [],k,j,h,_,_=>by
  have:¬k<bs.length:=fun hk=>by have:=Aw List.length h;rw[AO]at this;simp[Dd]at this;omega
  rw[CZ,lsR,Aa this,BZ]
 |x :: L,k,j,h,hm,h0=>by
  have i:=hm;unfold GU at i;rw[List.all_cons,BV]at i;have h:bs.drop k=efO bound x++Dd bound L:=by rw[h];unfold Dd;rw[Cm]
  have hx:=h0 x Cu;rw[AD,lsR,h,cM hb i.1 hx,Aa oK,Aa (by simpa using hx)];simp only;rw[Sp hb L _ _ (Ek h) i.2 (fun y hy=>h0 y (BR _ hy)),AE];rfl
theorem Un{size:Nat}{ts:List Str}{L:List (List Nat)}(hb:bound<=20000)(h1:1<=size)(h2:size<=64)(hd:FM ts=true)(hl:ts.length=L.length)(hm:GU bound L=true)(h0:∀x∈L,x≠ []):ixR size bound (ixO size bound ts L)=((ts,L),0):=by unfold ixR ixO;rw[kC hd h1 h2,Aa oK];simp only;rw[List.drop_left,hl,Sp (bs:=Dd bound L) hb L 0 [] rfl hm h0];unfold ixF;rw[Aa oK];rfl
end Idx
namespace Body
open Go.RowKit Mem Own Canon Nums Crc Recs Opts
open Block (opE opO opA)
def Du(T L:List Nat):Nat->List Rec->List Rec
 |_,[]=> []
 |a,r :: rs=>⟨(T.getD a 0:Nat),(L.getD a 0:Nat),r.source,r.text⟩ :: Du T L (a+1) rs
theorem MU(T L:List Nat):∀ (a:Nat) (R:List Rec),(Du T L a R).length=R.length
 |_,[]=>rfl
 |a,r :: rs=>by rw[Du,AD,AD,MU]
theorem Tr(T L:List Nat):∀ (a:Nat) (R S:List Rec),Du T L a (R++S)=Du T L a R++Du T L (a+R.length) S
 |_,[],_=>by simp[Du]
 |a,r :: rs,S=>by rw[DH,Du,Du,Tr,DH,AD,show a+1+rs.length=a+(rs.length+1) by omega]
def EY(T L:List Nat)(a:Nat)(R:List Rec)(i:Nat):List Rec:=Du T L a (R.take i)++R.drop i
theorem iC(T L:List Nat)(a:Nat)(R:List Rec):EY T L a R 0=R:=by simp[EY,Du]
theorem ZA(T L:List Nat)(a:Nat)(R:List Rec):EY T L a R R.length=Du T L a R:=by simp[EY]
theorem Zd(T L:List Nat)(a:Nat)(R:List Rec)(i:Nat):(EY T L a R i).length=R.length:=by unfold EY;rw[Ae,MU,AZ,AO];omega
theorem Td:∀ (l:List Rec),(Ct l).length=l.length*4
 | []=>rfl
 |r :: l=>by show(_ :: _ :: _ :: _ :: Ct l).length=_;simp[Td l];omega
theorem T7{l m:List Value}(h:l.length=k)(j:Nat)(u:Value):(l++m).set (k+j) u=l++m.set j u:=by subst h;rw[List.set_append_right _ _ mw,IS]
theorem fG{a:Nat}{R:List Rec}(h:i<R.length):((Ct (EY T L a R i)).set (i*4) (.int .u64 (T.getD (a+i) 0:Nat))).set (i*4+1) (.int .u8 (L.getD (a+i) 0:Nat))=Ct (EY T L a R (i+1)):=by
 have h1:R.drop i=R[i] :: R.drop (i+1):=Dj h;have h2:R.take (i+1)=R.take i++ [R[i]]:=by rw[List.take_append_getElem]
 have h3:(R.take i).length=i:=mQ
 have hp:(Ct (Du T L a (R.take i))).length=i*4:=by rw[Td,MU,h3]
 unfold EY;rw[O4,O4,h1,h2,Tr,h3,O4];have h4:Ct (R[i] :: R.drop (i+1))= [.int .u64 R[i].time, .int .u8 R[i].level, .string R[i].source, .string R[i].text]++Ct (R.drop (i+1)):=rfl;have h5:Ct (Du T L (a+i) [R[i]])= [.int .u64 (T.getD (a+i) 0:Nat), .int .u8 (L.getD (a+i) 0:Nat), .string R[i].source, .string R[i].text]:=rfl;rw[h4,h5,show ∀m u,(Ct (Du T L a (R.take i))++m).set (i*4) u=Ct (Du T L a (R.take i))++m.set 0 u from fun m u=>T7 hp 0 u,T7 hp];simp
def Fj(C:List Nat)(F:List (List Nat))(k:Nat):Int:=
 if opE (F.getD k [])≠0 then opE (F.getD k [])else if opA (F.getD k [])<(F.getD k []).length then 2 else
 if(FV (opO (F.getD k []))).2≠0 then(FV (opO (F.getD k []))).2 else if(FV (opO (F.getD k []))).1.length≠C.getD k 0 then 2 else 0
def GP(C T L:List Nat)(F:List (List Nat))(k:Nat):List Rec:=if Fj C F k=0 then Du T L (C.take k).sum (FV (opO (F.getD k []))).1 else []
def Nx(C T L:List Nat)(F:List (List Nat))(k:Nat)(w:World)(e:Ending)(w':World):Prop:=
 ∃v,e= .returned (.tuple #[v, .int .i64 (Fj C F k)])/\w'.ownsRow w 43 4 v (GP C T L F k).length (Ct (GP C T L F k))/\Below w w w'
theorem Me{F:List (List Nat)}{w':World}{er:Int}(hE:Fj C F k=er)(h:er≠0)(hb:Below w w w'):Nx C T L F k w (.returned (.tuple #[(),er])) w':=by subst hE;refine⟨_,rfl,?_,hb⟩;rw[show GP C T L F k= [] from Aa h];exact AI _ _ _ _
theorem aE(k:Nat):(C.take k).sum+C.getD k 0<=C.sum:=by
 rcases Nat.lt_or_ge k C.length with h|h
 ·have h1:C=C.take k++C[k] :: C.drop (k+1):=by rw[<-Dj h,EA]
  have h2:C.getD k 0=C[k]:=by rw[Am,Az h];rfl
  have h3:C.sum=(C.take k).sum+(C[k]+(C.drop (k+1)).sum):=by
   conv=>lhs;rw[h1]
   rw[Nm,Fo]
  omega
 ·rw[BQ h,Am,Ff h];simp
end Body
namespace Idx
open Go.RowKit Mem Own Canon Sift
open NumPut Recs
open Go.Proofs.YtfgdoknipbpfhaaGreatDoor.Open
theorem own_ints{base n c:Nat}{A:Option Addr}{y:List Nat}(h:w.ownsRow base 3 1 (.slice A n c) n (cZ .i64 y))(hn:y.length=n):Row w w A n 1 (intF .i64 (y.map Int.ofNat)):=
 Row.of_own h rfl fun i j hi hj=>by
  obtain rfl:j=0:=mw
  unfold cZ;rw[CM,Bf,BG,Az mw];unfold intF;rw[Am,BG,Az mw];rfl
end Idx
namespace Body
open Go.RowKit Mem Own Canon Nums Recs Opts
open Idx (Str IxAt AV Cn mZ)
def IF(l:List Rec):List Str×List (List Nat):=(AV (l.map mZ),(AV (l.map mZ)).map (Cn (l.map mZ)))
theorem Ov(h:k<C.length):(C.take (k+1)).sum=(C.take k).sum+C.getD k 0:=by rw[<-List.take_append_getElem h,Nm,Am,Az h];simp
end Body
end Go.Proofs.YtfgdoknipbpfhaaGreatDoor
