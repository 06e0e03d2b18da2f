/- Plain: a body that w -/
import Derived.Test.YtfgdoknipbpfhaaGreatDoorZBodyBlocks41
import Derived.Test.YtfgdoknipbpfhaaGreatDoorZBodyBlocks45
namespace Go.Proofs.YtfgdoknipbpfhaaGreatDoor
variable{k n x:Nat}{ls:List Nat}
namespace Body
open NumPut Nums Go.Proofs.YtfgdoknipbpfhaaGreatDoor.One Recs Opts Crc
open Idx (AV Cn mZ FM GU Un CD)
open Block (Bm opE opO opA Tj)
theorem RM{bs rest:List Nat}{rec:Nat}(hr:rec<=1000000000):∀ (G S:List Nat) (k:Nat) (cs ss:List Nat),G.length=S.length->bs.drop k=A0 G S++rest->(∀g∈G,g<=rec)->(∀s∈S,s<=8388608)->Ew rec bs G.length k 0 cs ss=(cs++G,ss++S,k+(A0 G S).length,0)
 | [],[],k,cs,ss,_,_,_,_=>by simp[Ew,A0]
 | [],_ :: _,_,_,_,h,_,_,_=>oL
 |_ :: _,[],_,_,_,h,_,_,_=>oL
 |g :: G,s :: S,k,cs,ss,hl,h,hg,hs=>by rw[A0,AE,AE]at h;obtain⟨i1,i2,i3⟩:=GO (most:=rec) h (hg g Cu) hr;have h2:=Ek h;obtain⟨j1,j2,j3⟩:=GO (most:=8388608) h2 (hs s Cu) mw;rw[AD,Ew,Aa oK,i1,i2,i3,j1,j2,j3,RM hr G S _ _ _ (by simpa using hl) (Ek h2) (fun x hx=>hg x (BR _ hx)) (fun x hx=>hs x (BR _ hx))];rw[A0,Ae,Ae,AE,AE];refine Prod.ext rfl (Prod.ext rfl (Prod.ext ?_ rfl));simp only;omega
theorem Yc{y:Nat}{G S d:List Nat}(hd:d=Ea n G S x y)(hn:n<=20000)(hl:G.length=S.length)(hG:G.length<=n)(hg:∀g∈G,g<=n)(hs:∀s∈S,s<=8388608)(hx:x<=8388608)(hy:y<=8388608):
 Eb d=n/\Dh d=G/\Ds d=S/\dP d=x/\dQ d=y/\dE d=0:=by
 have e0:d.drop 0=fZ n++(fZ G.length++(A0 G S++(fZ x++(fZ y++ [])))):=by rw[hd,BZ];rfl
 obtain⟨a1,a2,a3⟩:=GO (most:=20000) e0 hn mw;have e1:=Ek e0;obtain⟨b1,b2,b3⟩:=GO (most:=n) e1 hG mw;have e2:=Ek e1;have hp:=RM (rec:=n) mw G S _ [] [] hl e2 hg hs;have e3:=Ek e2;obtain⟨c1,c2,c3⟩:=GO (most:=8388608) e3 hx mw;have e4:=Ek e3;obtain⟨f1,f2,f3⟩:=GO (most:=8388608) e4 hy mw;have e5:=Ek e4;have r1:Eb d=n:=a1;have r2:GW d=G.length:=by unfold GW;rw[r1,a2,a3,b1]
 have r3:FL d=(G,S,0+(fZ n).length+(fZ G.length).length+(A0 G S).length,0):=by unfold FL;rw[r1,r2,a2,a3,b2,b3,hp];rfl
 have r4:dPA d=0+(fZ n).length+(fZ G.length).length+(A0 G S).length+(fZ x).length:=by unfold dPA;rw[r3,c2]
 have r5:dPE d=0:=by unfold dPE;rw[r3,c3]
 refine⟨r1,by unfold Dh;rw[r3],by unfold Ds;rw[r3],by unfold dP;rw[r3,c1],by unfold dQ;rw[r4,r5,f1],?_⟩;unfold dE;rw[r4,r5,f2,f3];unfold Gn;rw[Aa];intro hk;have:=Aw List.length e5;rw[AO,CZ]at this;omega
theorem XP(h:x<4294967296):Fl (CD x)=x:=by unfold Fl CD;simp only[List.getD_eq_getElem?_getD,List.getElem?_cons_zero,List.getElem?_cons_succ,Option.getD_some];omega
theorem Z2{P D:List Nat}(hl:ls=P++(D++CD D.length))(hD:D.length<4294967296):Fg ls=D/\¬GF ls/\Fa ls=P.length/\ls.take (Fa ls)=P:=by
 have h4:(CD D.length).length=4:=rfl;have hn:ls.length=P.length+D.length+4:=by rw[hl,Ae,Ae,h4];omega
 have hd:ls.drop (ls.length-4)=CD D.length:=by rw[hn,hl,<-AE,show P.length+D.length+4-4=(P++D).length by rw[Ae];omega,List.drop_left]
 have hv:Fl (ls.drop (ls.length-4))=D.length:=by rw[hd,XP hD]
 have hr:Fa ls=P.length:=by unfold Fa;rw[hv,hn];omega
 refine⟨?_,?_,hr,by rw[hr,hl,List.take_left]⟩
 ·unfold Fg;rw[hv,show ls.length-4-D.length=P.length by omega,hl,List.drop_left,List.take_left]
 ·unfold GF;rw[hv];omega
theorem Tg:∀ (FS:List (List Nat)) (rest:List Nat),Dk (FS.map List.length) (FS.flatten++rest)=FS
 | [],_=>rfl
 |f :: FS,rest=>by rw[Cl,List.flatten_cons,Dk,AE,List.take_left,List.drop_left,Tg FS rest]
theorem R9(wh pl:Bool):∀ (C:List Nat) (l:List Rec) (k:Nat),k<C.length->(CE wh pl C l).getD k []=Bm (xZ wh ((l.drop (C.take k).sum).take (C.getD k 0))) pl
 | [],_,k,h=>oL
 |c :: C,l,0,_=>by simp[CE]
 |c :: C,l,k+1,h=>by have ih:=R9 wh pl C (l.drop c) k pf;rw[CE,List.getD_cons_succ,ih,List.take_succ_cons,Fo,List.drop_drop,List.getD_cons_succ]
def strip(r:Rec):Rec:=⟨0,0,r.source,r.text⟩
theorem ZF{bs rest:List Nat}{r:Rec}(h:bs.drop k=CR false r++rest)(hl:Cy r=false):EE bs k 0=(strip r,k+(CR false r).length,0):=by
 obtain⟨h1,h2⟩:=IK hl;have q0:bs.drop k=BC r.source++(BC r.text++rest):=by rw[h];unfold CR GZ;simp
 have s1:Cf 4000 (bs.drop k)=(sB r.source,(BC r.source).length,0):=by rw[q0,Ub h1]
 have s2:Cf 4000 (bs.drop (k+(BC r.source).length))=(sB r.text,(BC r.text).length,0):=by rw[Ek q0,Ub h2]
 have z1:Ey 4000 bs k 0=sB r.source:=by unfold Ey;rw[Aa oK,s1]
 have z2:Dw 4000 bs k 0=k+(BC r.source).length:=by unfold Dw;rw[Aa oK,s1]
 have z3:Dv 4000 bs k 0=0:=by unfold Dv;rw[Aa oK,s1]
 have y1:Ey 4000 bs (k+(BC r.source).length) 0=sB r.text:=by unfold Ey;rw[Aa oK,s2]
 have y2:Dw 4000 bs (k+(BC r.source).length) 0=k+(BC r.source).length+(BC r.text).length:=by unfold Dw;rw[Aa oK,s2]
 have y3:Dv 4000 bs (k+(BC r.source).length) 0=0:=by unfold Dv;rw[Aa oK,s2]
 have i:(CR false r).length=(BC r.source).length+(BC r.text).length:=by unfold CR GZ;simp
 unfold EE;simp only[z1,z2,z3,y1,y2,y3,gX];rw[i];refine Prod.ext rfl (Prod.ext ?_ rfl);show k+_+_=k+_;omega
theorem RR{bs:List Nat}:∀ (l:List Rec) (f k:Nat) (i:List Rec),bs.drop k=xZ false l->k<=bs.length->bs.length<=f+k->(∀r∈l,B8 r)->(∀r∈l,Cy r=false)->IN f bs k i=(i++l.map strip,0)
 | [],f,k,i,h,hk,hf,_,_=>by
  have:(bs.drop k).length=0:=nO
  rw[AO]at this;rw[SW mw,Fu,BZ]
 |r :: l,f,k,i,h,hk,hf,hok,hl=>by
  have hh:bs.drop k=CR false r++xZ false l:=nO
  have h2:=(Pe false (hok r oK) (hl r oK)).2;have j:=Aw List.length hh;rw[Ae,AO]at j;obtain⟨f,rfl⟩:∃f',f=f'+1:=⟨f-1,mw⟩;rw[IN,Aa mw,ZF hh (hl r oK),Aa oK];simp only;rw[RR l f _ _ (Ek hh) mw mw (fun x hx=>hok x (by simp[hx])) (fun x hx=>hl x (by simp[hx]))];simp
theorem Rw{l:List Rec}(j:∀r∈l,B8 r):∀ (R:List Rec) (a:Nat),(∀i r,R[i]? =some r->l[a+i]? =some r)->Du (Bk l) (Bz l) a (R.map strip)=R
 | [],_,_=>rfl
 |r :: R,a,h=>by
  have h0:=h 0 r rfl;rw[Bf]at h0;obtain⟨t0,t1,t2,t3⟩:=j r (Be h0);have et:(Bk l).getD a 0=r.time.toNat:=by unfold Bk;rw[Am,BG,h0];rfl
  have el:(Bz l).getD a 0=r.level.toNat:=by unfold Bz;rw[Am,BG,h0];rfl
  rw[Cl,Du,Rw j R (a+1) (fun i x hx=>by have:=h (i+1) x (by simpa using hx);rwa [show a+1+i=a+(i+1) by omega]),et,el,show((r.time.toNat:Nat):Int)=r.time by omega,show((r.level.toNat:Nat):Int)=r.level by omega];rfl
theorem aU{C:List Nat}{l:List Rec}(pl:Bool)(hC:C.sum=l.length)(j:∀r∈l,B8 r)(hl:∀r∈l,Cy r=false)(hb:(xZ false l).length<=16000)(hk:k<C.length):
 Fj C (CE false pl C l) k=0/\GP C (Bk l) (Bz l) (CE false pl C l) k=(l.drop (C.take k).sum).take (C.getD k 0):=by
 obtain⟨a,ha⟩:=ii ((C.take k).sum);obtain⟨c,hc⟩:=ii (C.getD k 0);have hF:=R9 false pl C l k hk;rw[<-ha,<-hc]at hF;have z:a+c<=l.length:=by have h1:=Ov hk;have h2:=JD C (k+1);rw[<-ha,<-hc]at h1;omega
 have h:∀r∈(l.drop a).take c,r∈l:=fun r hr=>BY (CV hr);have y:((l.drop a).take c).length=c:=by rw[AZ,AO];omega
 have E:(xZ false ((l.drop a).take c)).length<=16000:=by have h1:=MY false l a;have h2:=MY false (l.drop a) c;omega
 obtain⟨f1,f2,f3⟩:=Tj (bs:=xZ false ((l.drop a).take c)) pl [] (Oo false (fun r hr=>j r (h r hr))) mw;rw[BZ]at f1 f2 f3;have hr:FV (xZ false ((l.drop a).take c))=(((l.drop a).take c).map strip,0):=by unfold FV;rw[RR ((l.drop a).take c) _ 0 [] oK mw mw (fun r hr=>j r (h r hr)) (fun r hr=>hl r (h r hr))];rfl
 have hE:Fj C (CE false pl C l) k=0:=by unfold Fj;rw[hF,f1,f2,f3,hr,Aa oK,Aa oK,Aa oK,<-hc,Aa];simp only[List.length_map];omega
 refine⟨hE,?_⟩;unfold GP;rw[Ab hE,hF,f2,hr,<-ha,<-hc];refine Rw j _ a fun i r hi=> ?_;rw[Gd]at hi;split at hi
 ·rw[Ik]at hi;exact hi
 ·cases hi
theorem Zi{o:Opt}{l:List Rec}(ho:CL o=0)(_am:Dt l=0)(ag:∀r∈l,B8 r)(hb:(xZ false l).length<=16000)(hT:(AV (l.map mZ)).length<=1048576)(an:(ixR o l).length<=99000)(hn:l.length<=1000):
 Hp o (Co o l)=0/\Dh (Dm (Co o l))=vZ o l/\Ds (Dm (Co o l))=(CE false o.plain (vZ o l) l).map List.length/\oN (Co o l)=l.length/\DV l.length (Bh (Ht (Co o l)))=(Bk l,Bz l,(C9 l).length,0)/\
  Idx.ixR o.bucket.toNat l.length (Bh (Hq (Co o l)))=(IF l,0)/\Dk (Ds (Dm (Co o l))) ((Co o l).take (Fa (Co o l)))=CE false o.plain (vZ o l) l:=by
 obtain⟨ls,ac⟩:=ii (Co o l);rw[<-ac];have j:=JK o l;have ak:=Kk o l;have ae:∀x∈vZ o l,1<=x:=Ly _ _;obtain⟨C,hC⟩:=ii (vZ o l);obtain⟨FS,J⟩:=ii (CE false o.plain C l);rw[<-hC]at j ak ae ⊢;rw[<-J];have aj:FS.length=C.length:=by rw[J,PK]
 have ar:FS.flatten.length<=(xZ false l).length+25*C.length:=by rw[J];exact Kn false o.plain C l hb
 have al:=Ma ag mw;obtain⟨X,hX⟩:=ii (AN (ixR o l));obtain⟨K,hK⟩:=ii (AN (C9 l));have au:X.length=(ixR o l).length+4:=by rw[hX,Dp]
 have aq:K.length=(C9 l).length+4:=by rw[hK,Dp]
 obtain⟨d,hd⟩:=ii (Ea l.length C (FS.map List.length) K.length X.length);have ah:ls=(FS.flatten++(K++X))++(AN d++CD (AN d).length):=by rw[ac];unfold Co EC;rw[<-hC,<-J,<-hX,<-hK,<-hd];simp only[List.append_assoc]
 have hS:∀s∈FS.map List.length,s<=FS.flatten.length:=fun s hs=>by rw[List.length_flatten];exact IJ hs
 have Y:(FS.map List.length).sum=FS.flatten.length:=List.length_flatten.symm;have af:∀g∈C,g<=l.length:=fun g hg=>by rw[<-j];exact IJ hg
 have ai:=NX (n:=l.length) (G:=C) (S:=FS.map List.length) (x:=K.length) (y:=X.length) mw mw (fun z hz=>by have:=af z hz;omega) (fun z hz=>by have:=hS z hz;omega) mw mw;rw[<-hd]at ai;obtain⟨p1,p2,p3,p4⟩:=Z2 ah (by rw[Dp];omega);obtain⟨q1,q2,q3,q4,q5,q6⟩:=Yc hd mw (by rw[Bb,aj]) mw af (fun s hs=>by have:=hS s hs;omega) mw mw;have hcut:Cw (AN d)=0/\Bh (AN d)=d:=PG d;have i:Dm ls=d:=by unfold Dm;rw[p1];exact hcut.2
 have hN:oN ls=l.length:=by unfold oN;rw[i,q2,j]
 have N:Ht ls=K:=by unfold Ht;rw[p4,i,q3,q4,Y,List.drop_left,List.take_left]
 have Q:Hq ls=X:=by unfold Hq;rw[p4,i,q3,q4,Y,<-List.drop_drop,List.drop_left,List.drop_left]
 have aa:Cw K=0/\Bh K=C9 l:=by rw[hK];exact PG _
 have Z:Cw X=0/\Bh X=ixR o l:=by rw[hX];exact PG _
 have E:=lU ag mw;obtain⟨_,_,b3,b4⟩:=MP ho;have L:=Lu l;have M:Idx.ixR o.bucket.toNat l.length (ixR o l)=(IF l,0):=by unfold ixR IF;exact Un mw mw mw (KQ hT) (by rw[Bb]) L.1 (fun x hx=>(L.2 x hx).1)
 refine⟨?_,by rw[i,q2],by rw[i,q3],hN,by rw[N,aa.2,E],by rw[Q,Z.2,M],by rw[i,q3,p4,Tg]⟩;have U:Hu l.length K=0:=by unfold Hu;rw[aa.1,aa.2,E,Aa oK,Aa oK,Aa oK]
 have ab:FK (Fa ls) d=0:=by
  unfold FK;rw[q6,q2,q1,q3,q4,q5,p3,Aa oK,Aa];rintro(h|h|h)
  ·have:=ae 0 h;omega
  ·exact h j
  ·rw[Y,Ae,Ae]at h;omega
 unfold Hp opnF opnD opnC opnI;rw[ho,p1,hcut.1,i,ab,hN,N,U,Q,Z.1,Z.2,M,Aa oK,Aa p2];simp
end Body
namespace Idx
open NumPut Sift
def Bv(l:List Str):Nat:=(l.map fun s=>s.length+1).sum
theorem G4(s:Str)(l:List Str):Bv (s :: l)=s.length+1+Bv l:=by simp[Bv]
theorem Pk(a b:List Str):Bv (a++b)=Bv a+Bv b:=by simp[Bv]
theorem Rj(row:List UInt8):Bv (tell row)<=row.length+1:=by
 unfold tell;split
 ·simp[Bv]
 ·simp[Bv];omega
theorem O0:∀ (l row:List UInt8),Bv (split row l)<=row.length+l.length+1
 | [],row=>by rw[split];simpa using Rj row
 |c :: t,row=>by
  rw[split];split
  ·have:=O0 t (row++ [Gz c]);simp at this ⊢;omega
  ·have h1:=O0 t [];have h2:=Rj row;rw[Pk];simp at h1 ⊢;omega
theorem SR(l:List UInt8):Bv (words l)<=l.length+1/\2*(words l).length<=l.length+1:=by
 have h:=O0 l []
 have h2:∀m:List Str,(∀s∈m,1<=s.length)->2*m.length<=Bv m:=fun m=>by
  induction m with
  |nil=>intro _;simp[Bv]
  |cons s m ih=>intro hs;have a:=ih (fun x hx=>hs x (BR _ hx));have b:=hs s Cu;rw[G4,AD];omega
 have h3:=h2 (words l) (fun s hs=>(Kr l [] s hs).1);have h4:Bv (words l)<=l.length+1:=by unfold words;simpa using h
 exact⟨h4,mw⟩
theorem Q7(s:Str):∀l,Bv (EV l s)<=Bv l+s.length+1
 | []=>by simp[EV,Bv]
 |x :: t=>by
  have:=Q7 s t;rw[EV];split
  ·rw[G4,G4];omega
  ·split<;>simp only[G4]<;>omega
theorem Oq:∀ (l h:List Str),Bv (Et h l)<=Bv h+Bv l
 | [],h=>by simp[Et,Bv]
 |x :: t,h=>by have h1:=Oq t (EV h x);have h2:=Q7 x h;unfold Et at h1 ⊢;rw[List.foldl_cons,G4];omega
theorem Sd:∀m:List Str,Bv (m.map (I6 :: ·))=Bv m+m.length
 | []=>rfl
 |s :: m=>by rw[Cl,G4,Sd m,G4,AD,AD];omega
theorem YF(t s:List UInt8):2*Bv (G9 t s)<=2*t.length+3*s.length+5:=by have h1:=Oq (G1 t s) [];have h2:=SR t;have h3:=SR s;have h4:=Sd (words s);unfold G9;unfold G1 at h1 ⊢;rw[Pk]at h1;simp only[Bv,List.map_nil,List.sum_nil]at h1 h2 h3 h4 ⊢;omega
theorem QP:∀ (ts:List (List Str)) (h:List Str),Bv (ts.foldl Et h)<=Bv h+(ts.map Bv).sum
 | [],h=>oK
 |t :: ts,h=>by have h1:=QP ts (Et h t);have h2:=Oq t h;rw[List.foldl_cons,Cl,Fo];omega
theorem SI:∀ (t:List Str) (i:Str),i.length<=25->(∀s∈t,s.length<=25)->(DY i t).length<=Bv t+t.length
 | [],_,_,_=>by simp[DY]
 |x :: t,i,hw,h=>by
  have hx:=h x Cu;have ih:=SI t x hx (fun s hs=>h s (BR _ hs));have ha:=KU i x;have hd:(CX (x.drop (Bj i x))).length<=1+x.length:=by unfold CX GY;rw[Ae,Bb,JJ mP,AO];omega
  rw[DY,Ae,Ae,JJ mw,G4,AD];omega
theorem dK{c:List Str}(h:∀s∈c,s.length<=25):(rZ c).length<=Bv c+c.length:=by
 cases c with
 |nil=>simp[rZ]
 |cons x t=>
  have hx:=h x Cu;have ih:=SI t x hx (fun s hs=>h s (BR _ hs));have hd:(CX x).length=1+x.length:=by unfold CX GY;rw[Ae,Bb,JJ mw]
  rw[rZ,Ae,G4,AD];omega
theorem Sc{size:Nat}(h1:1<=size)(h2:size<=64):∀ (f:Nat) (l:List Str),(∀s∈l,s.length<=25)->((Df size f l).flatMap rZ).length<=Bv l+l.length/\((Df size f l).flatMap fun c=>fZ (rZ c).length).length<=2*l.length
 |0,l,_=>by simp[Df]
 |f+1,l,h=>by
  rw[Df];split
  ·simp
  ·rename_i e;have hp:1<=l.length:=Fv.2 e;obtain⟨a,b⟩:=Sc h1 h2 f (l.drop size) (fun s hs=>h s (BY hs));have ht:∀s∈l.take size,s.length<=25:=fun s hs=>h s (CV hs);have c:=dK ht;have d:=Mi (l:=l.take size) ht;have g:(fZ (rZ (l.take size)).length).length<=2:=Block.Ie (by rw[AZ]at d;omega);have k:Bv l=Bv (l.take size)+Bv (l.drop size):=(by rw[<-Pk,EA]);rw[AO]at a b;rw[AZ]at c;rw[Cm,Cm,Ae,Ae];constructor<;>omega
theorem Xv{size:Nat}{l:List Str}(h1:1<=size)(h2:size<=64)(h:∀s∈l,s.length<=25)(hl:l.length<=1000000):(C8 size l).length<=10+Bv l+3*l.length:=by obtain⟨a,b⟩:=Sc h1 h2 l.length l h;have c:=qZ (x:=l.length) mw;unfold C8 Gw;rw[Ae,Ae];omega
end Idx
namespace Body
open NumPut Recs Opts Idx Go.Proofs.YtfgdoknipbpfhaaGreatDoor.One
open Ef (efO BX efW G7 Fh G0)
open Huff (bytesOf_length)
theorem Xb{bound:Nat}{l:List Nat}(hb:bound<=60)(hm:BX bound none l=true)(h0:l≠ [])(hn:l.length<=bound):(efO bound l).length<=24:=by
 have h:=RN mw hm h0 hn;have h1:efO bound l=fZ l.length++Huff.bytesOf (Fh (efW bound l.length) l):=Aa h0;have h2:1<=l.length:=Fv.2 h0;have hq:1<=bound / l.length:=(Nat.one_le_div_iff mw).2 hn;have hW:l.length*efW bound l.length<=bound:=jw
 have i:=G7 (efW bound l.length) l;have z:=G0 bound l none hm;have hp:=(Nh bound l none hm).1;have j:=Ln (l.map (·/ 2 ^ efW bound l.length)) 0 bound (Cr _) (fun x hx=>by obtain⟨y,hy,rfl⟩:=Ck.1 hx;exact⟨Cr _,AK (Hc _ _) (by have:=z y hy;omega)⟩) (List.Pairwise.map _ (fun a b h=>Nat.div_le_div_right h) hp);rw[Bb]at j;rw[h1,Ae,JJ mw,bytesOf_length];unfold Fh;rw[Ae,i];omega
theorem UZ:∀l:List Rec,2*((((l.map mZ).map Bv).sum:Nat):Int)<=3*Bp l
 | []=>by simp[J3]
 |r :: l=>by
  have ih:=UZ l;have e:Bp (r :: l)=weigh r+Bp l:=oP
  have h:=YF r.text.data.toList r.source.data.toList;have h1:r.text.data.toList.length=r.text.size:=Array.length_toList;have h2:r.source.data.toList.length=r.source.size:=Array.length_toList;rw[h1,h2]at h;have h3:2*Bv (mZ r)<=2*r.text.size+3*r.source.size+5:=h;rw[Cl,Cl,Fo,e];unfold weigh;omega
theorem WG{l:List Rec}(h:∀r∈l,B8 r)(hl:∀r∈l,Cy r=false):((xZ false l).length:Int)<=Bp l:=by
 induction l with
 |nil=>simp[xZ,J3]
 |cons r l ih=>
  have ih:=ih (fun x hx=>h x (BR _ hx)) (fun x hx=>hl x (BR _ hx));have e:Bp (r :: l)=weigh r+Bp l:=oP
  obtain⟨q1,q2⟩:=IK (hl r Cu);have a:(BC r.source).length<=2+r.source.size:=by unfold BC;rw[Ae,La];have:=Block.Ie (x:=r.source.size) mw;omega
  have b:(BC r.text).length<=2+r.text.size:=by unfold BC;rw[Ae,La];have:=Block.Ie (x:=r.text.size) mw;omega
  have c:xZ false (r :: l)=CR false r++xZ false l:=rfl;have d:CR false r=BC r.source++BC r.text:=rfl;rw[c,d,e,Ae,Ae];unfold weigh;omega
theorem Pd:∀ (l:List Int) (a:Int),(∀x∈l,0<=x)->a<=l.foldl (·+ ·) a
 | [],a,_=>oK
 |x :: l,a,h=>by have:=Pd l (a+x) (fun y hy=>h y (by simp[hy]));have:=h x oK;rw[List.foldl_cons];omega
theorem WO{l:List Rec}{r:Rec}(hr:r∈l):weigh r<=Bp l:=by
 obtain⟨a,b,rfl⟩:=List.append_of_mem hr;have hp:∀x∈(List.map weigh b),0<=x:=fun x hx=>by obtain⟨y,_,rfl⟩:=Ck.1 hx;unfold weigh;omega
 have hq:∀x∈(List.map weigh a),0<=x:=fun x hx=>by obtain⟨y,_,rfl⟩:=Ck.1 hx;unfold weigh;omega
 have h1:=Pd _ 0 hq;have h2:=Pd _ ((List.map weigh a).foldl (·+ ·) 0+weigh r) hp;unfold Bp;rw[EP,Cl,List.foldl_append,List.foldl_cons];omega
theorem Qt{l:List Rec}(hn:(l.length:Int)<=60)(hw:Bp l<=4000):Dt l=0:=by
 have i:¬l.any Cy=true:=by intro h;obtain⟨r,hr,hl⟩:=List.any_eq_true.1 h;have:=WO hr;unfold weigh at this;unfold Cy at hl;simp at hl;omega
 unfold Dt;rw[Aa mw,Aa i,Aa mw]
theorem Yi{o:Opt}{l:List Rec}(ho:CL o=0)(h1:l.length<=60)(h2:Bp l<=4000)(j:∀r∈l,B8 r)(hk:Dt l=0):
 (AV (l.map mZ)).length<=20000/\(ixR o l).length<=99000/\(xZ false l).length<=16000/\(Co o l).length<=99000:=by
 have hw:=UZ l;have hs:Bv (AV (l.map mZ))<=6000:=by have:=QP (l.map mZ) [];have e:Bv ([]:List Str)=0:=rfl;unfold AV;omega
 have hn:2*(AV (l.map mZ)).length<=Bv (AV (l.map mZ)):=by
  have h:=KQ (l:=l) (by have:=MK l;have:=NS (l.map mZ);omega)
  have h3:∀m:List Str,(∀s∈m,1<=s.length)->2*m.length<=Bv m:=fun m=>by
   induction m with
   |nil=>intro _;simp[Bv]
   |cons s m ih=>intro hs;have a:=ih (fun x hx=>hs x (BR _ hx));have b:=hs s Cu;rw[G4,AD];omega
  exact h3 _ (fun s hs=>(Jc h s hs).1)
 have h:=KQ (l:=l) mw;obtain⟨_,_,b3,b4⟩:=MP ho;have i:=Lu l;have hd:=Xv (size:=o.bucket.toNat) (l:=AV (l.map mZ)) mw mw (fun s hs=>(Jc h s hs).2) mw;have hl:=Oi (bound:=l.length) (C:=24) (ls:=(AV (l.map mZ)).map (Cn (l.map mZ))) (fun x hx=>by have h3:=i.2 x hx;exact Xb h1 (FJ.1 i.1 x hx) h3.1 h3.2);rw[Bb]at hl;have hx:(ixR o l).length<=88000:=by unfold ixR ixO;rw[Ae];omega
 have hb:=WG j (K8 hk);refine⟨mw,mw,mw,?_⟩;have N:=Kk o l;have L:=JK o l;have M:=Kn false o.plain (vZ o l) l mw;have J:=Ma j mw;have hF:∀s∈(CE false o.plain (vZ o l) l).map List.length,s<=(CE false o.plain (vZ o l) l).flatten.length:=fun s hs=>by rw[List.length_flatten];exact IJ hs
 have E:=NX (n:=l.length) (G:=vZ o l) (S:=(CE false o.plain (vZ o l) l).map List.length) (x:=(AN (C9 l)).length) (y:=(AN (ixR o l)).length) mw mw (fun z hz=>by have:=IJ hz;omega) (fun z hz=>by have:=hF z hz;omega) (by rw[Dp];omega) (by rw[Dp];omega);unfold Co EC;simp only[List.length_append];rw[Dp,Dp,Dp];have h4:∀z,(CD z).length=4:=fun _=>rfl;rw[h4];rw[Dp,Dp]at E;omega
end Body
namespace Body
open Go.RowKit Mem Go.Proofs.YtfgdoknipbpfhaaGreatDoor.Own Canon Nums Recs Opts
open Crc (TabAt)
open Idx (Str IxAt AV mZ)
structure Small (o:Opt) (l:List Rec):Prop where
 ob:CL o=0
 n:l.length<=60
 ck:Dt l=0
 ok:∀r∈l,B8 r
 t:(AV (l.map mZ)).length<=20000
 x:(ixR o l).length<=99000
 b:(xZ false l).length<=16000
 m:(Co o l).length<=99000
theorem Small.of{o:Opt}{l:List Rec}(ho:CL o=0)(h1:(l.length:Int)<=60)(h2:Bp l<=4000)(h:∀r∈l,B8 r):Small o l:=by have hk:=Qt h1 h2;obtain⟨a,b,c,d⟩:=Yi ho mw h2 h hk;exact⟨ho,mw,hk,h,a,b,c,d⟩
def FR(o:Opt)(l:List Rec):List (List Nat):=CE false o.plain (vZ o l) l
theorem Wt{o:Opt}{l:List Rec}(h:∀r∈l,B8 r):∀x∈Co o l,x<=255:=R0 (Oz false o.plain _ l h) (SH h) (Rq o l)
theorem Small.all{o:Opt}{l:List Rec}(h:Small o l):(vZ o l).length=(FR o l).length/\(Bk l).length=(vZ o l).sum/\(Bz l).length=(vZ o l).sum/\(∀f∈FR o l,f.length<=100000/\∀x∈f,x<=255)/\(vZ o l).sum<=20000/\(FR o l).length<=20000:=by have hs:=JK o l;have hc:=Kk o l;have hn:=h.n;have hf:=PK false o.plain (vZ o l) l;have i:=Kn false o.plain (vZ o l) l h.b;have hb:=h.b;refine⟨hf.symm,by unfold Bk;rw[Bb,hs],by unfold Bz;rw[Bb,hs],fun f hf=>⟨?_,fun x hx=>Oz false o.plain (vZ o l) l h.ok x (List.mem_flatten.2 ⟨f,hf,hx⟩)⟩,mw,by unfold FR;omega⟩;have h1:f.length<=((FR o l).map List.length).sum:=IJ (Ck.2 ⟨f,hf,rfl⟩);rw[<-List.length_flatten]at h1;unfold FR at h1;omega
def O8(o:Opt)(l:List Rec)(w:World)(e:Ending)(w':World):Prop:=
 ∃gb,e= .returned (.tuple #[.pointer (some ⟨gb,0,none⟩),ij])/\BodyAt w' w gb (vZ o l) ((FR o l).map List.length) (Bk l) (Bz l) (IF l) (FR o l) (List.replicate (FR o l).length false)/\Below w w w'
theorem Z7(w:World)(o:Opt)(A:Option Addr)(n c:Nat)(l:List Rec)(h:Small o l)(hn:(Co o l).length=n)(hc:n<=c)(i:A=none->n=0/\c=0)(ht:TabAt w)(ha:Row w w A n 1 (jZ .u8 (Co o l))):
 Calls Tryz.prog 13 #[o.val, .slice A n c] w (O8 o l w):=by
 obtain⟨e0,e1,e2,e3,e4,e5,e6⟩:=Zi h.ob h.ck h.ok h.b (by have:=h.t;omega) h.x (by have:=h.n;omega);refine(YY w o A n c (Co o l) hn (by have:=h.m;omega) hc (Wt h.ok) i ht ha).mono ?_;rintro e w' ⟨hb,_,j⟩;obtain⟨gb,rfl,hB⟩:=j e0;rw[e3,e4,e5,e6,e1,e2,Bb]at hB;exact⟨gb,rfl,hB,hb⟩
end Body
namespace Body
open Go.RowKit Mem Go.Proofs.YtfgdoknipbpfhaaGreatDoor.Own Canon Nums Recs Opts
open Crc (TabAt Bh Cw)
open Go.Proofs.YtfgdoknipbpfhaaGreatDoor.Open (intF)
open Idx (Str IxAt)
theorem jV{w:World}{base c:Nat}{A:Option Addr}(h:w.ownsRow base 5 1 (.slice A n c) n (cZ .u8 ls))(hn:ls.length=n):Row w w A n 1 (jZ .u8 ls):=by subst hn;exact own_row h
end Body
end Go.Proofs.YtfgdoknipbpfhaaGreatDoor
