/- Plain: numbers, colu -/
import Derived.Test.YtfgdoknipbpfhaaGreatDoorZBodyIndex37
import Derived.Test.YtfgdoknipbpfhaaGreatDoorZBodyIndex44
namespace Go.Proofs.YtfgdoknipbpfhaaGreatDoor
variable{bound d i j k x:Nat}{C L T a:List Nat}{w:World}
namespace Nums
open NumPut Go.Proofs.YtfgdoknipbpfhaaGreatDoor.One
theorem G3{bs rest:List Nat}{most:Nat}(h:bs.drop k=gZ x++rest)(hx:x<=most)(hm:most<=1000000000):Bh most bs k 0=x/\AR most bs k 0=k+(gZ x).length/\AU most bs k 0=0:=by unfold Bh AR AU;rw[h,O0 hx hm];simp
theorem Yb{bs rest:List Nat}(h:bs.drop k=gZ x++rest)(hx:x<18446744073709551616):H5 bs k 0=x/\IJ bs k 0=k+(gZ x).length/\II bs k 0=0:=by unfold H5 IJ II;rw[h,UW hx];simp
theorem j8{bs rest:List Nat}(h:bs.drop k=x :: rest):GQ bs k 0=x/\takeA bs k 0 1=k+1/\Cj bs k 0 1=0/\bs.drop (k+1)=rest:=by
 have hl:1<=bs.length-k:=by have:=AM List.length h;rw[AZ,AI]at this;omega
 have hb:bs.getD k 0=x:=by
  have:(bs.drop k)[0]? =some x:=pf
  rw[FX,Cw]at this;rw[Aq,this];rfl
 unfold GQ takeA Cj;refine⟨by rw[Ae pR,hb],nN,nN,?_⟩;rw[<-List.drop_drop,h];rfl
theorem jJ{bs rest:List Nat}(h:bs.drop k=a++rest):BJ bs k 0 a.length=a/\takeA bs k 0 a.length=k+a.length/\Cj bs k 0 a.length=0:=by
 have hl:a.length<=bs.length-k:=by have:=AM List.length h;rw[AZ,Aj]at this;omega
 unfold BJ takeA Cj;refine⟨by rw[Ae pR,Ae nB,h,List.take_left],nN,nN⟩
end Nums
namespace Recs
open NumPut Nums Go.Proofs.YtfgdoknipbpfhaaGreatDoor.One
theorem iV(h:d<18446744073709551616):Ha (Gz d)=d:=by unfold Ha Gz;split<;>split<;>omega
theorem Vw{bs rest:List Nat}:∀ (ts:List Nat) (at_ i:Nat) (j:List Nat),bs.drop at_=Cr stepT i ts++rest->i<18446744073709551616->(∀t∈ts,t<18446744073709551616)->Gb ts.length bs at_ i j=(j++ts,at_+(Cr stepT i ts).length,0)
 | [],at_,i,j,_,_,_=>by simp[Gb,Cr]
 |t :: ts,at_,i,j,h,hw,ht=>by
  have h0:=ht t CP;rw[Cr,AK]at h;have h:bs.drop at_=gZ (Gz (IT t i))++(Cr stepT t ts++rest):=h;obtain⟨e1,e2,e3⟩:=Yb h (Me (L8 _ _));have ev:(i+Ha (Gz (IT t i))) % 18446744073709551616=t:=by rw[iV (L8 _ _)];unfold IT;omega
  rw[AI,Gb,e1,e2,e3,Ae pR,ev,Vw ts _ t _ (ES h) h0 (fun x hx=>ht x (Cm _ hx)),Cr,Aj];simp[stepT,Nat.add_assoc]
theorem QC(x:Nat):∀l:List Nat,l.take (lead x l)=List.replicate (lead x l) x
 | []=>by simp[lead]
 |y :: t=>by
  rw[lead];split
  ·rename_i h;rw[List.take_succ_cons,QC x t,List.replicate_succ,h]
  ·simp
theorem Qp(x:Nat):∀l:List Nat,(l.drop (lead x l)).head?≠some x
 | []=>by simp[lead]
 |y :: t=>by
  rw[lead];split
  ·rw[List.drop_succ_cons];exact Qp x t
  ·rename_i h;simpa using h
theorem Tt{bs rest:List Nat}{n:Nat}(hn:n<=1000000000):∀ (f:Nat) (l:List Nat) (at_:Nat) (i:List Nat),l.length<=f->i.length+l.length=n->bs.drop at_=lvB l++rest->(∀x,l.head?=some x->i.getLast?≠some x)->FL f n bs at_ i=(i++l,at_+(lvB l).length,0)
 |f,[],at_,i,_,hs,_,_=>by rw[TR (by simp at hs;omega),lvB];simp
 |f+1,x :: t,at_,i,hf,hs,h,hx=>by
  have hl:=N7 x t;simp only[List.length_cons]at hf hs;rw[lvB,En,AK]at h;obtain⟨b1,b2,b3,b4⟩:=j8 h;obtain⟨i1,i2,i3⟩:=G3 (most:=n-i.length) b4 nB nB;have ho:Iz (n-i.length) bs at_=(x,lead x t+1,at_+1+(gZ (lead x t+1)).length,0):=by unfold Iz;rw[b1,b2,b3,i1,i2,i3]
  have he:KR i (x,lead x t+1,at_+1+(gZ (lead x t+1)).length,0)=0:=by
   unfold KR;rw[Ae pR,Ae];rintro(h0|h0)
   ·simp at h0
   ·exact hx x rfl h0
  rw[FL,Ae nB,ho,he,Ae pR];simp only;rw[Tt hn f (t.drop (lead x t)) _ (i++List.replicate (lead x t+1) x) nM (by rw[Aj,Ez,AZ];omega) (ES b4) (fun y hy=>by rw[List.getLast?_append,List.getLast?_replicate,Ae nB];intro e;have:x=y:=(by simpa using e);subst this;exact Qp _ _ hy)];rw[lvB,AK];refine Prod.ext ?_ (Prod.ext ?_ rfl)
  ·simp only;rw[List.replicate_succ,En,<-QC,EX]
  ·simp only[List.length_cons,List.length_append];omega
theorem Yx{l:List Rec}(h:∀r∈l,CA r):∀t∈Bo l,t<18446744073709551616:=fun t ht=>by obtain⟨r,hr,rfl⟩:=Cl.1 ht;obtain⟨h1,h2,_,_⟩:=h r hr;omega
theorem W5{l:List Rec}(h:∀r∈l,CA r)(hn:l.length<=20000):ED l.length (BW l)=(Bo l,xZ l,(BW l).length,0):=by
 have ht:=Vw (bs:=BW l) (rest:=lvB (xZ l)) (Bo l) 0 0 [] rfl nB (Yx h);have hd:(BW l).drop (0+(Cr stepT 0 (Bo l)).length)=lvB (xZ l)++ []:=by unfold BW;rw[B0,List.drop_left,Cx]
 have i:(Bo l).length=l.length:=by unfold Bo;rw[Bk]
 have j:(xZ l).length=l.length:=by unfold xZ;rw[Bk]
 have hv:=Tt (n:=l.length) nB l.length (xZ l) _ [] nB (by simp[j]) hd (fun x _=>by simp);rw[i]at ht;unfold ED;rw[ht];unfold Kk;rw[Ae pR];simp only;rw[hv];unfold Mo;rw[Ae pR];simp only[List.nil_append];refine Prod.ext rfl (Prod.ext rfl (Prod.ext ?_ rfl));unfold BW;simp only[List.length_append];omega
end Recs
namespace Crc
theorem OP(b:List Nat):C7 (b++CU (Ct b))=0/\Bu (b++CU (Ct b))=b:=by
 have ht:(CU (Ct b)).length=4:=rfl;have hl:(b++CU (Ct b)).length-4=b.length:=nU
 have h4:4<=(b++CU (Ct b)).length:=nU
 have hC:C7 (b++CU (Ct b))=0:=by unfold C7;rw[Ae nB,hl,List.take_left,List.drop_left,Ag rfl]
 exact⟨hC,by unfold Bu;rw[Ag hC,hl,List.take_left]⟩
end Crc
namespace Idx
open NumPut Nums Go.Proofs.YtfgdoknipbpfhaaGreatDoor.One
theorem SH(s:Str):toS (H3 s)=s:=by
 unfold toS H3;rw[List.map_map]
 conv=>rhs;rw[<-List.map_id s]
 exact Hj fun x _=>pR
theorem VU{bs rest:List Nat}{s:Str}(h:bs.drop k=Dt s++rest)(hs:s.length<=25):Fc 25 bs k 0=H3 s/\Et 25 bs k 0=k+(Dt s).length/\Es 25 bs k 0=0:=by
 have hl:(H3 s).length=s.length:=by unfold H3;rw[Bk]
 have hp:Cz 25 (bs.drop k)=(H3 s,(Dt s).length,0):=by rw[h];unfold Cz Dt;rw[AK,O0 hs nB];simp only[List.length_append,hl,List.drop_left];rw[Ae pR,Ae nB,<-hl,List.take_left]
 unfold Fc Et Es;rw[hp];simp
theorem Vi:∀a b:Str,a.take (Bl a b)=b.take (Bl a b)
 | [],b=>by simp[Bl]
 |a :: s,[]=>by simp[Bl]
 |a :: s,b :: t=>by
  rw[Bl];split
  ·rename_i h;rw[List.take_succ_cons,List.take_succ_cons,Vi s t,h]
  ·simp
theorem Sr:∀ {a b:Str},a<b->Bl a b<b.length
 | [],[],h=>absurd h (Hg _)
 | [],b :: t,_=>by simp[Bl]
 |a :: s,[],h=>absurd h pR
 |a :: s,b :: t,h=>by
  rw[Bl];split
  ·rename_i e;subst e;rw[List.cons_lt_cons_iff]at h;rcases h with h|h
   ·exact absurd h (UInt8.lt_irrefl _)
   ·have:=Sr h.2;rw[AI];omega
  ·simp
theorem Nq{i x:Str}(h:Dh i x=true):1<=x.length/\x.length<=25/\i<x:=by unfold Dh at h;rw[Ch,Ch,decide_eq_true_iff,decide_eq_true_iff,decide_eq_true_iff]at h;exact h
theorem kO{bs rest:List Nat}{i x:Str}(h:bs.drop k=Dt x++rest)(hm:Dh i x=true):Fb bs i true k=(x,k+(Dt x).length,0):=by
 obtain⟨m1,m2,m3⟩:=Nq hm;obtain⟨e1,e2,e3⟩:=VU h m2;unfold Fb nxN nxA nxE;simp only[if_true];rw[e1,e2,e3,SH];unfold nxS;rw[Ae pR,List.take_zero,Ey,Ae];rintro(h0|h0|h0)
 ·rw[h0]at m1;simp at m1
 ·rw[hm]at h0;cases h0
 ·cases h0.1
theorem WI{bs rest:List Nat}{i x:Str}(h:bs.drop k=gZ (Bl i x)++(Dt (x.drop (Bl i x))++rest))(hw:i.length<=25)(hm:Dh i x=true):Fb bs i false k=(x,k+(gZ (Bl i x)).length+(Dt (x.drop (Bl i x))).length,0):=by
 obtain⟨m1,m2,m3⟩:=Nq hm;have ha:=Lx i x;have j:=Sr m3;obtain⟨i1,i2,i3⟩:=G3 (most:=i.length) h ha.1 nB;obtain⟨e1,e2,e3⟩:=VU (ES h) nM;unfold Fb nxN nxA nxE;simp only[Bool.false_eq_true,if_false];rw[i1,i2,i3,e1,e2,e3,SH];unfold nxS;rw[Vi,EX,Ae pR,Ae];rintro(h0|h0|h0)
 ·have:=AM List.length h0;rw[AZ,Ea]at this;omega
 ·rw[hm]at h0;cases h0
 ·exact h0.2 rfl
theorem VH{bs:List Nat}:∀ (t:List Str) (j:Str) (k:Nat) (i:List Str),i.getLast?.getD []=j->j.length<=25->bs.drop k=EF j t->k<=bs.length->Cv j t=true->Ds bs t.length false k i=(i++t,0)
 | [],j,k,i,_,_,h,_,_=>by
  have:¬k<bs.length:=fun hk=>by have:=AM List.length h;rw[AZ,EF,Ea]at this;omega
  show(i,GV bs k 0)=_;unfold GV;rw[Ae this,Cx]
 |x :: t,j,k,i,ha,hw,h,hk,hr=>by rw[Cv,Ch]at hr;obtain⟨m1,m2,m3⟩:=Nq hr.1;rw[EF,AK]at h;have hn:=WI h hw hr.1;have h2:=ES (ES h);have hl:=AM List.length h;simp only[List.length_drop,List.length_append]at hl;rw[AI,Ds,ha,hn,Ae pR];simp only;rw[VH t x _ (i++ [x]) pR m2 h2 nB hr.2,AK];rfl
theorem jY{c h:List Str}(h0:c≠ [])(hr:Cv (h.getLast?.getD []) c=true):Ds (vZ c) c.length true 0 h=(h++c,0):=by
 cases c with
 |nil=>exact absurd rfl h0
 |cons x t=>rw[Cv,Ch]at hr;obtain⟨m1,m2,m3⟩:=Nq hr.1;have hn:=kO (bs:=vZ (x :: t)) (k:=0) (rest:=EF x t) rfl hr.1;rw[AI,Ds,hn,Ae pR];simp only;rw[VH t x _ (h++ [x]) pR m2 (by rw[B0];exact List.drop_left) (by rw[vZ,Aj];omega) hr.2,AK];rfl
theorem Th:∀ (a b:List Str) (i:Str),Cv i (a++b)=true->Cv i a=true/\Cv (a.getLast?.getD i) b=true
 | [],b,i,h=>⟨rfl,h⟩
 |x :: a,b,i,h=>by
  rw[En,Cv,Ch]at h;obtain⟨h1,h2⟩:=Th a b x h.2;refine⟨by rw[Cv,Ch];exact⟨h.1,h1⟩,?_⟩;cases a with
  |nil=>exact h2
  |cons y s=>simpa[List.getLast?_cons]using h2
theorem Yf(a b:List Str):(a++b).getLast?.getD []=b.getLast?.getD (a.getLast?.getD []):=by rw[List.getLast?_append];cases b.getLast?<;>rfl
theorem Se{bs rest:List Nat}{size:Nat}(h1:1<=size):∀ (f:Nat) (l:List Str) (k:Nat) (i:List Str),l.length<=f->bs.drop k=(Ee size f l).flatMap vZ++rest->Cv (i.getLast?.getD []) l=true->
 bkR size bs ((Ee size f l).map fun c=>(vZ c).length) l.length k i=(i++l,k+((Ee size f l).flatMap vZ).length,0)
 |0,l,k,i,hf,_,_=>by obtain rfl:l= []:=Hl nB;simp[Ee,bkR]
 |f+1,l,k,i,hf,h,hr=>by
  rw[Ee]at h ⊢;by_cases e:l= []
  ·subst e;simp[bkR]
  ·have hp:1<=l.length:=FW.2 e;rw[Ae e]at h ⊢;rw[Dm,AK]at h;obtain⟨t1,t2,t3⟩:=jJ h;have hc:l.take size≠ []:=fun h0=>by have:=AM List.length h0;rw[Bc,Ea]at this;omega
   have j:=Th (l.take size) (l.drop size) _ (by rw[EX];exact hr);have hb:=jY hc j.1;rw[Bc]at hb;rw[CE,bkR,t1,t2,t3,Ae pR,hb,Ae pR];simp only;have ih:=Se h1 f (l.drop size) (k+(vZ (l.take size)).length) (i++l.take size) nM (ES h) (by rw[Yf];exact j.2);rw[AZ]at ih;rw[ih,AK,EX,Dm,Aj,Nat.add_assoc]
theorem U5{bs rest:List Nat}{size n:Nat}(h1:1<=size):∀ (f g:Nat) (l:List Str) (k x:Nat) (i:List Nat),l.length<=f->l.length<=g->l.length=n-x->bs.drop k=(Ee size g l).flatMap (fun c=>gZ (vZ c).length)++rest->(∀c∈Ee size g l,(vZ c).length<=2000)->
 szR n size bs f k x i=(i++(Ee size g l).map (fun c=>(vZ c).length),k+((Ee size g l).flatMap (fun c=>gZ (vZ c).length)).length,0)
 |f,g,[],k,x,i,_,_,hn,_,_=>by
  have hx:n<=x:=by simp at hn;omega
  rw[SF hx];cases g with
  |zero=>simp[Ee]
  |succ g=>simp[Ee]
 |0,_,y :: t,_,_,_,hf,_,_,_,_=>absurd hf pR
 |_+1,0,y :: t,_,_,_,_,hg,_,_,_=>absurd hg pR
 |f+1,g+1,y :: t,k,x,i,hf,hg,hn,h,hb=>by rw[Ee,Ae pR]at h hb ⊢;rw[Dm,AK]at h;obtain⟨i1,i2,i3⟩:=G3 (most:=2000) h (hb _ CP) nB;simp only[List.length_cons]at hf hg hn;rw[szR,Ae nB,i1,i2,i3,Ae pR];rw[U5 h1 f g ((y :: t).drop size) _ (x+size) _ (by rw[AZ,AI];omega) (by rw[AZ,AI];omega) (by rw[AZ,AI];omega) (ES h) (fun c hc=>hb c (Cm _ hc))];rw[CE,AK,Dm,Aj,Nat.add_assoc];rfl
theorem Uy{size:Nat}:∀ (f:Nat) (l c:List Str),c∈Ee size f l->(∀s∈c,s∈l)/\c.length<=size
 |0,_,c,h=>by simp[Ee]at h
 |f+1,l,c,h=>by
  rw[Ee]at h;split at h
  ·cases h
  ·rcases BK.1 h with rfl|h
   ·exact⟨fun s hs=>CN hs,nY⟩
   ·obtain⟨a,b⟩:=Uy f _ c h;exact⟨fun s hs=>Cg (a s hs),b⟩
theorem Wo{size:Nat}{l:List Str}(hm:EC l=true)(h1:1<=size)(h2:size<=64)(rest:List Nat):Gi size (CO size l++rest)=(l,(CO size l).length,0):=by
 have hs:=IN hm;unfold EC at hm;rw[Ch,decide_eq_true_iff]at hm;have e0:(CO size l++rest).drop 0=gZ l.length++((GR size l).flatMap (fun c=>gZ (vZ c).length)++((GR size l).flatMap vZ++rest)):=by unfold CO;simp[List.append_assoc]
 obtain⟨i1,i2,i3⟩:=G3 (most:=1048576) e0 hm.2 nB;have e1:=ES e0;have hz:=U5 (n:=l.length) h1 l.length l.length l _ 0 [] (Am _) (Am _) rfl e1 (fun c hc=>by obtain⟨a,b⟩:=Uy _ _ _ hc;have:=MQ (l:=c) (fun s hs'=>(hs s (a s hs')).2);omega);have hS:GL size (CO size l++rest)=((GR size l).map (fun c=>(vZ c).length),0+(gZ l.length).length+((GR size l).flatMap (fun c=>gZ (vZ c).length)).length,0):=by unfold GL;rw[i1,i2,i3,Ae pR,hz];rfl
 have hk:=Se h1 l.length l _ [] (Am _) (ES e1) hm.1;unfold Gi;rw[hS,Ae pR,i1];simp only;have hk:bkR size (CO size l++rest) ((GR size l).map fun c=>(vZ c).length) l.length (0+(gZ l.length).length+((GR size l).flatMap (fun c=>gZ (vZ c).length)).length) []=_:=hk;rw[hk];refine Prod.ext (Ey _) (Prod.ext ?_ rfl);show _=(CO size l).length;unfold CO;simp only[List.length_append];show _+((GR size l).flatMap vZ).length=_;omega
end Idx
namespace Ef
open Huff NumPut Nums Go.Proofs.YtfgdoknipbpfhaaGreatDoor.One
theorem XU{b:List Nat}(h:i<8*a.length):bit (Bv (a++b)) i=bit (Bv a) i:=by rw[Nh nU,Nh h];simp only[List.getD_eq_getElem?_getD];rw[Hk nB]
theorem Vt{a b:List Bool}(i:Nat):∀m,(∀j,j<m->bit a (i+j)=bit b (i+j))->AN a i m=AN b i m
 |0,_=>rfl
 |m+1,h=>by rw[AN,AN,Vt i m (fun j hj=>h j nB),h m nB]
theorem Vf{a:List Bool}(i:Nat):∀m,(∀j,j<m->bit a (i+j)=0)->AN a i m=0
 |0,_=>rfl
 |m+1,h=>by rw[AN,Vf i m (fun j hj=>h j nB),h m nB]
theorem hQ(pre post:List Bool){x:List Bool}(h:j<x.length):bit (pre++(x++post)) (pre.length+j)=bit x j:=by unfold bit;simp only[List.getD_eq_getElem?_getD];rw[I8 nB,IE,Hk h]
theorem gG(h:j<d):bit (unary d) j=0:=by unfold bit unary;rw[Aq,Hk qh,List.getElem?_replicate,Ag h];rfl
theorem XQ(d:Nat):bit (unary d) d=1:=by unfold bit unary;rw[Aq,I8 pR];simp
theorem Qh{bs:List Bool}:∀ (d k f:Nat),(∀j,j<d->bit bs (k+j)=0)->bit bs (k+d)=1->d<f->unC bs k f=d
 |_,_,0,_,_,h=>absurd h nB
 |0,k,f+1,_,h1,_=>by rw[Cw]at h1;rw[unC,Ag h1]
 |d+1,k,f+1,h0,h1,hf=>by have h:=h0 0 nB;rw[Cw]at h;rw[unC,Ae (by rw[h];decide),Qh d (k+1) f (fun j hj=>by have:=h0 (j+1) nB;rwa [show k+1+j=k+(j+1) by omega]) (by rwa [show k+1+d=k+(d+1) by omega]) nB]
theorem j6{bs:List Bool}(h0:∀j,j<d->bit bs (k+j)=0)(h1:bit bs (k+d)=1)(hl:k+d<bs.length):unV bs k=d/\Huff.unE bs k=0/\unA bs k=k+d+1:=by have hd:unD bs k=d:=Qh d k _ h0 h1 nB;unfold unV Huff.unE unA;rw[hd,Ag hl,Ag hl,Ag hl];exact⟨rfl,rfl,rfl⟩
theorem RZ{bound W:Nat}{R B:List Bool}(hb:∀i,i<B.length->bit R i=bit B i)(hl:B.length<=R.length):∀ (G:List Nat) (pre:List Bool) (h:Nat) (E:List Nat),B=pre++Dz h (G.map (·/ 2 ^ W))->(∀x∈G,x<bound)->G.Pairwise (·< ·)->(∀x∈G,h<=x / 2 ^ W)->(∀y,E.getLast?=some y->∀x∈G,y<x)->
 rowN bound W R (G.map (·% 2 ^ W)) pre.length h E=(E++G,B.length,0)
 | [],pre,h,E,e,_,_,_,_=>by
  have e:B=pre:=by rw[e];simp[Dz]
  subst e;simp[rowN]
 |x :: t,pre,h,E,e,h1,h2,h3,h4=>by
  have hx:=h3 x CP;rw[FN]at h2;rw[CE,Dz]at e;have L:=AM List.length e;rw[Aj,Aj,Kn]at L;have J:∀j,j<x / 2 ^ W-h+1->bit R (pre.length+j)=bit (unary (x / 2 ^ W-h)) j:=fun j hj=>by rw[hb _ nB,e,hQ _ _ (by rw[Kn];exact hj)]
  obtain⟨u1,u2,u3⟩:=j6 (bs:=R) (k:=pre.length) (d:=x / 2 ^ W-h) (fun j hj=>by rw[J j nB,gG hj]) (by rw[J _ nB,XQ]) nB;have hh:h+(x / 2 ^ W-h)=x / 2 ^ W:=nB
  have hv:x / 2 ^ W*2 ^ W+x % 2 ^ W=x:=by rw[Nat.mul_comm];exact Nat.div_add_mod x (2 ^ W)
  rw[CE,rowN,u1,u2,u3,hh,hv,Ae pR,Ae,Ae (by have:=h1 x CP;omega)]
  ·have ih:=RZ hb hl t (pre++unary (x / 2 ^ W-h)) (x / 2 ^ W) (E++ [x]) (by rw[AK];exact e) (fun y hy=>h1 y (Cm _ hy)) h2.2 (fun y hy=>Nat.div_le_div_right (Nat.le_of_lt (h2.1 y hy))) (fun y hy z hz=>by have:x=y:=(by simpa using hy);subst this;exact h2.1 z hz);rw[Aj,Kn,<-Nat.add_assoc]at ih;rw[ih,AK];rfl
  ·rintro⟨ha,hc⟩;cases hz:E.getLast? with
   |none=>exact ha (List.getLast?_eq_none_iff.1 hz)
   |some y=>have:=h4 y hz x CP;rw[hz,FV]at hc;omega
theorem Uz{W:Nat}{R B:List Bool}(hb:∀i,i<B.length->bit R i=bit B i):∀ (E:List Nat) (pre post:List Bool),B=pre++(Dj W E++post)->∀ (i x:Nat),E[i]? =some x->AN R (pre.length+i*W) W=x % 2 ^ W
 | [],_,_,_,i,x,hx=>pT
 |y :: t,pre,post,e,i,x,hx=>by
  have e1:B=pre++(msb (y % 2 ^ W) W W++(Dj W t++post)):=by rw[e];unfold Dj;rw[Dm,AK]
  have G:=AM List.length e1;rw[Aj,Aj,uZ]at G;cases i with
  |zero=>
   obtain rfl:y=x:=by simpa using hx
   have h:=Mg (y % 2 ^ W) W (Nat.mod_lt _ (Gk W)) B pre (Dj W t++post) (by rw[e1,AK]) W (Am _);rw[Gl,Nat.pow_zero,Nat.div_one]at h;rw[Nat.zero_mul,Cw,<-h];exact Vt _ _ fun j hj=>hb _ nB
  |succ i=>have h:=Uz hb t (pre++msb (y % 2 ^ W) W W) post (by rw[e1,AK]) i x (by simpa using hx);rw[Aj,uZ]at h;rw[<-h,I7];congr 1;omega
theorem lY{W:Nat}{R B:List Bool}(hb:∀i,i<B.length->bit R i=bit B i){j:List Nat}{post:List Bool}(e:B=Dj W j++post):ER W R j.length=j.map (·% 2 ^ W):=by
 apply List.ext_getElem
 ·rw[RD,Bk]
 ·intro i h1 h2;rw[Bk]at h2;have h:=Uz hb j [] post e i j[i] (AD h2);rw[Ea,B0]at h;simp only[ER,List.getElem_map,List.getElem_range];exact h
theorem fJ{h:List Nat}(hb:bound<=20000)(hm:Cd bound none h=true)(h0:h≠ [])(rest:List Nat):efR bound (efO bound h++rest)=(h,(efO bound h).length,0):=by
 have hs:=Idx.LB hm h0;have M:=Ho bound h none hm
 have hp:h.Pairwise (·< ·):=by
  rw[List.pairwise_iff_getElem];have hr:=ND bound h none hm;intro i j hi hj N;obtain⟨d,rfl⟩:∃d,j=i+1+d:=⟨j-(i+1),nB⟩;clear N
  induction d with
  |zero=>exact hr i _ _ (AD hi) (AD hj)
  |succ d ih=>exact Nat.lt_trans (ih nB) (hr (i+1+d) _ _ (AD nB) (AD hj))
 have hO:efO bound h=gZ h.length++bytesOf (FU (efW bound h.length) h):=Ae h0;generalize hW:efW bound h.length=W at hO;have hB:FU W h=Dj W h++Dz 0 (h.map (·/ 2 ^ W)):=rfl;obtain⟨B,Q⟩:=jc (FU W h);rw[<-Q]at hO hB;have e0:(efO bound h++rest).drop 0=gZ h.length++(bytesOf B++rest):=by rw[hO,AK];rfl
 obtain⟨i1,i2,i3⟩:=G3 (most:=bound) e0 hs.2 nB;have e1:=ES e0;obtain⟨R,hR⟩:=jc (Bv (bytesOf B++rest));have U:R.length=8*((B.length+7) / 8)+8*rest.length:=by rw[hR,EY,Aj,bytesOf_length];omega
 have J:∀i,i<8*((B.length+7) / 8)->bit R i=bit B i:=fun i hi=>by rw[hR,XU (by rw[bytesOf_length];exact hi),Tm]
 have E:∀i,i<B.length->bit R i=bit B i:=fun i hi=>J i nB;have G:=Ht W h;have L:=AM List.length hB;rw[Aj,G]at L;have hL:=lY E hB;have hN:=RZ (bound:=bound) (W:=W) E nB h (Dj W h) 0 [] hB M hp (fun x _=>Da _) (fun y hy=>by simp at hy);rw[G,Ey]at hN;have hP:AN R B.length (Hw B.length)=0:=Vf _ _ fun j hj=>by unfold Hw at hj;rw[J _ nB];exact Kf nB
 have hF:Hu bound h.length R=(h,(B.length+7) / 8,0):=by unfold Hu;rw[hW,hL,hN,Ae nB,Ae pR,hP,Ae pR]
 unfold efR;rw[i1,i2,i3,Ae pR,Ae nB,e1,<-hR,hF];unfold efG;rw[Ae pR];refine Prod.ext rfl (Prod.ext ?_ rfl);rw[hO,Aj,bytesOf_length];simp only;omega
end Ef
namespace Idx
open NumPut Nums Go.Proofs.YtfgdoknipbpfhaaGreatDoor.One Ef
theorem US{bound:Nat}{bs:List Nat}(hb:bound<=20000):∀ (L:List (List Nat)) (k:Nat) (i:List (List Nat)),bs.drop k=BI bound L->CV bound L=true->(∀x∈L,x≠ [])->lsR bound bs L.length k i=(i++L,0)
 | [],k,i,h,_,_=>by
  have:¬k<bs.length:=fun hk=>by have:=AM List.length h;rw[AZ]at this;simp[BI]at this;omega
  rw[Ea,lsR,Ae this,Cx]
 |x :: L,k,i,h,hm,h0=>by
  have j:=hm;unfold CV at j;rw[List.all_cons,Ch]at j;have h:bs.drop k=efO bound x++BI bound L:=by rw[h];unfold BI;rw[Dm]
  have hx:=h0 x CP;rw[AI,lsR,h,fJ hb j.1 hx,Ae pR,Ae (by simpa using hx)];simp only;rw[US hb L _ _ (ES h) j.2 (fun y hy=>h0 y (Cm _ hy)),AK];rfl
theorem Nc{size:Nat}{ts:List Str}{L:List (List Nat)}(hb:bound<=20000)(h1:1<=size)(h2:size<=64)(hd:EC ts=true)(hl:ts.length=L.length)(hm:CV bound L=true)(h0:∀x∈L,x≠ []):ixR size bound (ixO size bound ts L)=((ts,L),0):=by unfold ixR ixO;rw[Wo hd h1 h2,Ae pR];simp only;rw[List.drop_left,hl,US (bs:=BI bound L) hb L 0 [] rfl hm h0];unfold ixF;rw[Ae pR];rfl
end Idx
namespace Body
open Go.RowKit Mem Own Canon Nums Crc Recs Opts
open Block (opE opO opA)
def Ep(T L:List Nat):Nat->List Rec->List Rec
 |_,[]=> []
 |a,r :: rs=>⟨(T.getD a 0:Nat),(L.getD a 0:Nat),r.source,r.text⟩ :: Ep T L (a+1) rs
theorem Ls(T L:List Nat):∀ (a:Nat) (R:List Rec),(Ep T L a R).length=R.length
 |_,[]=>rfl
 |a,r :: rs=>by rw[Ep,AI,AI,Ls]
theorem U2(T L:List Nat):∀ (a:Nat) (R S:List Rec),Ep T L a (R++S)=Ep T L a R++Ep T L (a+R.length) S
 |_,[],_=>by simp[Ep]
 |a,r :: rs,S=>by rw[En,Ep,Ep,U2,En,AI,show a+1+rs.length=a+(rs.length+1) by omega]
def FH(T L:List Nat)(a:Nat)(R:List Rec)(i:Nat):List Rec:=Ep T L a (R.take i)++R.drop i
theorem lF(T L:List Nat)(a:Nat)(R:List Rec):FH T L a R 0=R:=by simp[FH,Ep]
theorem XC(T L:List Nat)(a:Nat)(R:List Rec):FH T L a R R.length=Ep T L a R:=by simp[FH]
theorem Xj(T L:List Nat)(a:Nat)(R:List Rec)(i:Nat):(FH T L a R i).length=R.length:=by unfold FH;rw[Aj,Ls,Bc,AZ];omega
theorem RH:∀ (l:List Rec),(BX l).length=l.length*4
 | []=>rfl
 |r :: l=>by show(_ :: _ :: _ :: _ :: BX l).length=_;simp[RH l];omega
theorem Vm{l m:List Value}(h:l.length=k)(j:Nat)(u:Value):(l++m).set (k+j) u=l++m.set j u:=by subst h;rw[List.set_append_right _ _ nB,IE]
theorem jQ{a:Nat}{R:List Rec}(h:i<R.length):((BX (FH T L a R i)).set (i*4) (.int .u64 (T.getD (a+i) 0:Nat))).set (i*4+1) (.int .u8 (L.getD (a+i) 0:Nat))=BX (FH T L a R (i+1)):=by
 have h1:R.drop i=R[i] :: R.drop (i+1):=Dx h;have h2:R.take (i+1)=R.take i++ [R[i]]:=by rw[List.take_append_getElem]
 have h3:(R.take i).length=i:=nY
 have hp:(BX (Ep T L a (R.take i))).length=i*4:=by rw[RH,Ls,h3]
 unfold FH;rw[M3,M3,h1,h2,U2,h3,M3];have h4:BX (R[i] :: R.drop (i+1))= [.int .u64 R[i].time, .int .u8 R[i].level, .string R[i].source, .string R[i].text]++BX (R.drop (i+1)):=rfl;have h5:BX (Ep T L (a+i) [R[i]])= [.int .u64 (T.getD (a+i) 0:Nat), .int .u8 (L.getD (a+i) 0:Nat), .string R[i].source, .string R[i].text]:=rfl;rw[h4,h5,show ∀m u,(BX (Ep T L a (R.take i))++m).set (i*4) u=BX (Ep T L a (R.take i))++m.set 0 u from fun m u=>Vm hp 0 u,Vm hp];simp
def Fv(C:List Nat)(F:List (List Nat))(k:Nat):Int:=
 if opE (F.getD k [])≠0 then opE (F.getD k [])else if opA (F.getD k [])<(F.getD k []).length then 2 else
 if(Gy (opO (F.getD k []))).2≠0 then(Gy (opO (F.getD k []))).2 else if(Gy (opO (F.getD k []))).1.length≠C.getD k 0 then 2 else 0
def GD(C T L:List Nat)(F:List (List Nat))(k:Nat):List Rec:=if Fv C F k=0 then Ep T L (C.take k).sum (Gy (opO (F.getD k []))).1 else []
def OV(C T L:List Nat)(F:List (List Nat))(k:Nat)(w:World)(e:Ending)(w':World):Prop:=
 ∃v,e= .returned (.tuple #[v, .int .i64 (Fv C F k)])/\w'.ownsRow w 43 4 v (GD C T L F k).length (BX (GD C T L F k))/\Below w w w'
theorem M8{F:List (List Nat)}{w':World}{er:Int}(hE:Fv C F k=er)(h:er≠0)(hb:Below w w w'):OV C T L F k w (.returned (.tuple #[(),er])) w':=by subst hE;refine⟨_,rfl,?_,hb⟩;rw[show GD C T L F k= [] from Ae h];exact AE _ _ _ _
theorem XP(k:Nat):(C.take k).sum+C.getD k 0<=C.sum:=by
 rcases Nat.lt_or_ge k C.length with h|h
 ·have h1:C=C.take k++C[k] :: C.drop (k+1):=by rw[<-Dx h,EX]
  have h2:C.getD k 0=C[k]:=by rw[Aq,AD h];rfl
  have h3:C.sum=(C.take k).sum+(C[k]+(C.drop (k+1)).sum):=by
   conv=>lhs;rw[h1]
   rw[NG,GH]
  omega
 ·rw[Bp h,Aq,FO h];simp
end Body
namespace Idx
open Go.RowKit Mem Own Canon Sift
open NumPut Recs
open Go.Proofs.YtfgdoknipbpfhaaGreatDoor.Open
theorem own_ints{base n c:Nat}{A:Option Addr}{E:List Nat}(h:w.ownsRow base 3 1 (.slice A n c) n (bZ .i64 E))(hn:E.length=n):Row w w A n 1 (intF .i64 (E.map Int.ofNat)):=
 Row.of_own h rfl fun i j hi hj=>by
  obtain rfl:j=0:=nB
  unfold bZ;rw[EK,Cw,BR,AD nB];unfold intF;rw[Aq,BR,AD nB];rfl
end Idx
end Go.Proofs.YtfgdoknipbpfhaaGreatDoor
