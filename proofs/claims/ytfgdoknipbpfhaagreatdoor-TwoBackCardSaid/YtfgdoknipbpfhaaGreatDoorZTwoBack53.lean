/- The walks of two.Unp -/
import Derived.Test.YtfgdoknipbpfhaaGreatDoorZTwoBack44
import Derived.Test.YtfgdoknipbpfhaaGreatDoorZTwoBack48
namespace Go.Proofs.YtfgdoknipbpfhaaGreatDoor
open Go.Proofs.Tryz
open Go.Lib (hid)
open Go.RowKit
set_option maxHeartbeats 4000000
set_option maxRecDepth 100000
section
variable{k n x:Nat}{C ls:List Nat}
theorem TL{bs rest:List Nat}{rec:Nat}(hr:rec<=1000000000):∀ (G S:List Nat) (k:Nat) (cs ss:List Nat),G.length=S.length->bs.drop k=Bk G S++rest->(∀g∈G,g<=rec)->(∀s∈S,s<=8388608)->Fe rec bs G.length k 0 cs ss=(cs++G,ss++S,k+(Bk G S).length,0)
 | [],[],k,cs,ss,_,_,_,_=>by simp[Fe,Bk]
 | [],_ :: _,_,_,_,h,_,_,_=>rY
 |_ :: _,[],_,_,_,h,_,_,_=>rY
 |g :: G,s :: S,k,cs,ss,hl,h,hg,hs=>by rw[Bk,AE,AE]at h;obtain⟨i1,i2,i3⟩:=GY (most:=rec) h (hg g CP) hr;have h2:=CW h;obtain⟨j1,j2,j3⟩:=GY (most:=8388608) h2 (hs s CP) nj;rw[AD,Fe,Aa rX,i1,i2,i3,j1,j2,j3,TL hr G S _ _ _ (by simpa using hl) (CW h2) (fun x hx=>hg x (Cn _ hx)) (fun x hx=>hs x (Cn _ hx))];rw[Bk,Ag,Ag,AE,AE];refine Prod.ext rfl (Prod.ext rfl (Prod.ext ?_ rfl));simp only;omega
theorem iU{y:Nat}{G S d:List Nat}(hd:d=EJ n G S x y)(hn:n<=20000)(hl:G.length=S.length)(hG:G.length<=n)(hg:∀g∈G,g<=n)(hs:∀s∈S,s<=8388608)(hx:x<=8388608)(hy:y<=8388608):
 Db d=n/\BM d=G/\Cc d=S/\dP d=x/\dQ d=y/\dE d=0:=by
 have e0:d.drop 0=fZ n++(fZ G.length++(Bk G S++(fZ x++(fZ y++ [])))):=by rw[hd,Cg];rfl
 obtain⟨a1,a2,a3⟩:=GY (most:=20000) e0 hn nj;have e1:=CW e0;obtain⟨b1,b2,b3⟩:=GY (most:=n) e1 hG nj;have e2:=CW e1;have hp:=TL (rec:=n) nj G S _ [] [] hl e2 hg hs;have e3:=CW e2;obtain⟨c1,c2,c3⟩:=GY (most:=8388608) e3 hx nj;have e4:=CW e3;obtain⟨f1,f2,f3⟩:=GY (most:=8388608) e4 hy nj;have e5:=CW e4;have r1:Db d=n:=a1;have r2:Gu d=G.length:=by unfold Gu;rw[r1,a2,a3,b1]
 have r3:GQ d=(G,S,0+(fZ n).length+(fZ G.length).length+(Bk G S).length,0):=by unfold GQ;rw[r1,r2,a2,a3,b2,b3,hp];rfl
 have r4:dPA d=0+(fZ n).length+(fZ G.length).length+(Bk G S).length+(fZ x).length:=by unfold dPA;rw[r3,c2]
 have r5:dPE d=0:=by unfold dPE;rw[r3,c3]
 refine⟨r1,by unfold BM;rw[r3],by unfold Cc;rw[r3],by unfold dP;rw[r3,c1],by unfold dQ;rw[r4,r5,f1],?_⟩;unfold dE;rw[r4,r5,f2,f3];unfold Hh;rw[Aa];intro hk;have:=Aw List.length e5;rw[AQ,Dg]at this;omega
theorem iB(h:x<4294967296):Gd (CU x)=x:=by unfold Gd CU;simp only[List.getD_eq_getElem?_getD,List.getElem?_cons_zero,List.getElem?_cons_succ,Option.getD_some];omega
theorem mX{P D:List Nat}(hl:ls=P++(D++CU D.length))(hD:D.length<4294967296):FV ls=D/\¬Hn ls/\Dd ls=P.length/\ls.take (Dd ls)=P:=by
 have h4:(CU D.length).length=4:=rfl;have hn:ls.length=P.length+D.length+4:=by rw[hl,Ag,Ag,h4];omega
 have hd:ls.drop (ls.length-4)=CU D.length:=by rw[hn,hl,<-AE,show P.length+D.length+4-4=(P++D).length by rw[Ag];omega,List.drop_left]
 have hv:Gd (ls.drop (ls.length-4))=D.length:=by rw[hd,iB hD]
 have hr:Dd ls=P.length:=by unfold Dd;rw[hv,hn];omega
 refine⟨?_,?_,hr,by rw[hr,hl,List.take_left]⟩
 ·unfold FV;rw[hv,show ls.length-4-D.length=P.length by omega,hl,List.drop_left,List.take_left]
 ·unfold Hn;rw[hv];omega
theorem Sr:∀ (FS:List (List Nat)) (rest:List Nat),CA (FS.map List.length) (FS.flatten++rest)=FS
 | [],_=>rfl
 |f :: FS,rest=>by rw[Ct,List.flatten_cons,CA,AE,List.take_left,List.drop_left,Sr FS rest]
theorem SI(wh pl:Bool):∀ (C:List Nat) (l:List Rec) (k:Nat),k<C.length->(CG wh pl C l).getD k []=Bm (sZ wh ((l.drop (C.take k).sum).take (C.getD k 0))) pl
 | [],_,k,h=>rY
 |c :: C,l,0,_=>by simp[CG]
 |c :: C,l,k+1,h=>by have ih:=SI wh pl C (l.drop c) k sH;rw[CG,List.getD_cons_succ,ih,List.take_succ_cons,GC,List.drop_drop,List.getD_cons_succ]
def strip(r:Rec):Rec:=⟨0,0,r.source,r.text⟩
theorem mB{bs rest:List Nat}{r:Rec}(h:bs.drop k=CF false r++rest)(hl:Cq r=false):Fl bs k 0=(strip r,k+(CF false r).length,0):=by
 obtain⟨h1,h2⟩:=IN hl;have q0:bs.drop k=Bc r.source++(Bc r.text++rest):=by rw[h];unfold CF Hg;simp
 have s1:Cv 4000 (bs.drop k)=(sB r.source,(Bc r.source).length,0):=by rw[q0,Nq h1]
 have s2:Cv 4000 (bs.drop (k+(Bc r.source).length))=(sB r.text,(Bc r.text).length,0):=by rw[CW q0,Nq h2]
 have z1:DV 4000 bs k 0=sB r.source:=by unfold DV;rw[Aa rX,s1]
 have z2:Df 4000 bs k 0=k+(Bc r.source).length:=by unfold Df;rw[Aa rX,s1]
 have z3:De 4000 bs k 0=0:=by unfold De;rw[Aa rX,s1]
 have y1:DV 4000 bs (k+(Bc r.source).length) 0=sB r.text:=by unfold DV;rw[Aa rX,s2]
 have y2:Df 4000 bs (k+(Bc r.source).length) 0=k+(Bc r.source).length+(Bc r.text).length:=by unfold Df;rw[Aa rX,s2]
 have y3:De 4000 bs (k+(Bc r.source).length) 0=0:=by unfold De;rw[Aa rX,s2]
 have i:(CF false r).length=(Bc r.source).length+(Bc r.text).length:=by unfold CF Hg;simp
 unfold Fl;simp only[z1,z2,z3,y1,y2,y3,Vt];rw[i];refine Prod.ext rfl (Prod.ext ?_ rfl);show k+_+_=k+_;omega
theorem Su{bs:List Nat}:∀ (l:List Rec) (f k:Nat) (i:List Rec),bs.drop k=sZ false l->k<=bs.length->bs.length<=f+k->(∀r∈l,BR r)->(∀r∈l,Cq r=false)->Jd f bs k i=(i++l.map strip,0)
 | [],f,k,i,h,hk,hf,_,_=>by
  have:(bs.drop k).length=0:=qy
  rw[AQ]at this;rw[Ua nj,Fz,Cg]
 |r :: l,f,k,i,h,hk,hf,hok,hl=>by
  have hh:bs.drop k=CF false r++sZ false l:=qy
  have h2:=(NK false (hok r rX) (hl r rX)).2;have j:=Aw List.length hh;rw[Ag,AQ]at j;obtain⟨f,rfl⟩:∃f',f=f'+1:=⟨f-1,nj⟩;rw[Jd,Aa nj,mB hh (hl r rX),Aa rX];simp only;rw[Su l f _ _ (CW hh) nj nj (fun x hx=>hok x sD) (fun x hx=>hl x sD)];simp
theorem Tw{l:List Rec}(j:∀r∈l,BR r):∀ (R:List Rec) (a:Nat),(∀i r,R[i]? =some r->l[a+i]? =some r)->Ev (BQ l) (Cj l) a (R.map strip)=R
 | [],_,_=>rfl
 |r :: R,a,h=>by
  have h0:=h 0 r rfl;rw[Bt]at h0;obtain⟨t0,t1,t2,t3⟩:=j r (Bp h0);have et:(BQ l).getD a 0=r.time.toNat:=by unfold BQ;rw[Aq,Co,h0];rfl
  have el:(Cj l).getD a 0=r.level.toNat:=by unfold Cj;rw[Aq,Co,h0];rfl
  rw[Ct,Ev,Tw j R (a+1) (fun i x hx=>by have:=h (i+1) x (by simpa using hx);rwa [show a+1+i=a+(i+1) by omega]),et,el,show((r.time.toNat:Nat):Int)=r.time by omega,show((r.level.toNat:Nat):Int)=r.level by omega];rfl
theorem YW{l:List Rec}(pl:Bool)(hC:C.sum=l.length)(j:∀r∈l,BR r)(hl:∀r∈l,Cq r=false)(hb:(sZ false l).length<=16000)(hk:k<C.length):
 Fq C (CG false pl C l) k=0/\GG C (BQ l) (Cj l) (CG false pl C l) k=(l.drop (C.take k).sum).take (C.getD k 0):=by
 obtain⟨a,ha⟩:=ii ((C.take k).sum);obtain⟨c,hc⟩:=ii (C.getD k 0);have hF:=SI false pl C l k hk;rw[<-ha,<-hc]at hF;have E:a+c<=l.length:=by have h1:=Qy hk;have h2:=LY C (k+1);rw[<-ha,<-hc]at h1;omega
 have h:∀r∈(l.drop a).take c,r∈l:=fun r hr=>Bz (BX hr);have y:((l.drop a).take c).length=c:=oi
 have z:(sZ false ((l.drop a).take c)).length<=16000:=by have h1:=zX false l a;have h2:=zX false (l.drop a) c;omega
 obtain⟨f1,f2,f3⟩:=Qh (bs:=sZ false ((l.drop a).take c)) pl [] (Nd false (fun r hr=>j r (h r hr))) nj;rw[Cg]at f1 f2 f3;have hr:GU (sZ false ((l.drop a).take c))=(((l.drop a).take c).map strip,0):=by unfold GU;rw[Su ((l.drop a).take c) _ 0 [] rX nj nj (fun r hr=>j r (h r hr)) (fun r hr=>hl r (h r hr))];rfl
 have hE:Fq C (CG false pl C l) k=0:=by unfold Fq;rw[hF,f1,f2,f3,hr,Aa rX,Aa rX,Aa rX,<-hc,Aa];simp only[List.length_map];omega
 refine⟨hE,?_⟩;unfold GG;rw[Ab hE,hF,f2,hr,<-ha,<-hc];refine Tw j _ a fun i r hi=> ?_;rw[GD]at hi;split at hi
 ·rw[Iy]at hi;exact hi
 ·cases hi
theorem Vg{C:List Nat}{l:List Rec}(pl:Bool)(hC:C.sum=l.length)(i:∀r∈l,BR r)(hl:∀r∈l,Cq r=false)(hb:(sZ false l).length<=16000):∀ (m k:Nat) (h:List Rec),k+m=C.length->h=l.take (C.take k).sum->Gx C (BQ l) (Cj l) (CG false pl C l) m k h=(l,0)
 |0,k,h,hk,ha=>by
  obtain rfl:k=C.length:=nj
  rw[Gx,ha,List.take_length,hC,List.take_length]
 |m+1,k,h,hk,ha=>by obtain⟨h1,h2⟩:=YW pl hC i hl hb (k:=k) nj;rw[Gx,h1,Aa rX,h2,Vg pl hC i hl hb m (k+1) _ nj];rw[ha,Qy nj,List.take_add]
theorem Ak7{l:List Rec}(pl:Bool)(hC:C.sum=l.length)(h:∀r∈l,BR r)(hk:CI l=0)(hb:(sZ false l).length<=16000):
 G9 C (BQ l) (Cj l) (Ga l) (CG false pl C l)=0/\IC C (BQ l) (Cj l) (Ga l) (CG false pl C l)=l:=by
 have hg:=Vg pl hC h (KJ hk) hb C.length 0 [] nj rX;have hE:G9 C (BQ l) (Cj l) (Ga l) (CG false pl C l)=0:=by unfold G9;rw[MC,hg];unfold Ns;rw[Aa rX,hk,Aa rX,Ab (by simp[eqX])]
 refine⟨hE,?_⟩;unfold IC;rw[Ab hE,MC,hg]
theorem lI{o:Opt}{l:List Rec}(ho:Dj o=0)(aq:CI l=0)(af:∀r∈l,BR r)(hb:(sZ false l).length<=16000)(hT:(AZ (l.map oZ)).length<=1048576)(au:(Ah4 o l).length<=99000)(hn:l.length<=1000):
 Ei o (CY o l)=0/\BM (zZ (CY o l))=Dm o l/\Cc (zZ (CY o l))=(CG false o.plain (Dm o l) l).map List.length/\oN (CY o l)=l.length/\By l.length (AJ (Cr (CY o l)))=(BQ l,Cj l,(DJ l).length,0)/\
  Ah5 o.bucket.toNat l.length (AJ (Fu (CY o l)))=(Ga l,0)/\CA (Cc (zZ (CY o l))) ((CY o l).take (Dd (CY o l)))=CG false o.plain (Dm o l) l:=by
 obtain⟨ls,ah⟩:=ii (CY o l);rw[<-ah];have j:=LZ o l;have ai:=NU o l;have ae:∀x∈Dm o l,1<=x:=Na _ _;obtain⟨C,hC⟩:=ii (Dm o l);obtain⟨FS,J⟩:=ii (CG false o.plain C l);rw[<-hC]at j ai ae ⊢;rw[<-J];have aj:FS.length=C.length:=by rw[J,MC]
 have an:FS.flatten.length<=(sZ false l).length+25*C.length:=by rw[J];exact L4 false o.plain C l hb
 have al:=Lj af nj;obtain⟨X,hX⟩:=ii (AU (Ah4 o l));obtain⟨K,hK⟩:=ii (AU (DJ l));have ar:X.length=(Ah4 o l).length+4:=by rw[hX,Dt]
 have am:K.length=(DJ l).length+4:=by rw[hK,Dt]
 obtain⟨d,hd⟩:=ii (EJ l.length C (FS.map List.length) K.length X.length);have ag:ls=(FS.flatten++(K++X))++(AU d++CU (AU d).length):=by rw[ah];unfold CY EI;rw[<-hC,<-J,<-hX,<-hK,<-hd];simp only[List.append_assoc]
 have hS:∀s∈FS.map List.length,s<=FS.flatten.length:=fun s hs=>by rw[List.length_flatten];exact Ah6 hs
 have Y:(FS.map List.length).sum=FS.flatten.length:=List.length_flatten.symm;have ac:∀g∈C,g<=l.length:=fun g hg=>by rw[<-j];exact Ah6 hg
 have ak:=On (n:=l.length) (G:=C) (S:=FS.map List.length) (x:=K.length) (y:=X.length) nj nj (fun z hz=>by have:=ac z hz;omega) (fun z hz=>by have:=hS z hz;omega) nj nj;rw[<-hd]at ak;obtain⟨p1,p2,p3,p4⟩:=mX ag pn;obtain⟨q1,q2,q3,q4,q5,q6⟩:=iU hd nj (by rw[Bu,aj]) nj ac (fun s hs=>by have:=hS s hs;omega) nj nj;have hcut:BI (AU d)=0/\AJ (AU d)=d:=No d;have i:zZ ls=d:=by unfold zZ;rw[p1];exact hcut.2
 have Aj1:oN ls=l.length:=by unfold oN;rw[i,q2,j]
 have N:Cr ls=K:=by unfold Cr;rw[p4,i,q3,q4,Y,List.drop_left,List.take_left]
 have L:Fu ls=X:=by unfold Fu;rw[p4,i,q3,q4,Y,<-List.drop_drop,List.drop_left,List.drop_left]
 have aa:BI K=0/\AJ K=DJ l:=by rw[hK];exact No _
 have Z:BI X=0/\AJ X=Ah4 o l:=by rw[hX];exact No _
 have E:=aI af nj;obtain⟨_,_,b3,b4⟩:=NP ho;have M:=L8 l;have Q:Ah5 o.bucket.toNat l.length (Ah4 o l)=(Ga l,0):=by unfold Ah4 Ga;exact VP nj nj nj (KW hT) (by rw[Bu]) M.1 (fun x hx=>(M.2 x hx).1)
 refine⟨?_,by rw[i,q2],by rw[i,q3],Aj1,by rw[N,aa.2,E],by rw[L,Z.2,Q],by rw[i,q3,p4,Sr]⟩;have U:GJ l.length K=0:=by unfold GJ;rw[aa.1,aa.2,E,Aa rX,Aa rX,Aa rX]
 have ab:Gb (Dd ls) d=0:=by
  unfold Gb;rw[q6,q2,q1,q3,q4,q5,p3,Aa rX,Aa];rintro(h|h|h)
  ·have:=ae 0 h;omega
  ·exact h j
  ·rw[Y,Ag,Ag]at h;omega
 unfold Ei I9 opnD opnC opnI;rw[ho,p1,hcut.1,i,ab,Aj1,N,U,L,Z.1,Z.2,Q,Aa rX,Aa p2];simp
def BV(l:List Str):Nat:=(l.map fun s=>s.length+1).sum
theorem Io(s:Str)(l:List Str):BV (s :: l)=s.length+1+BV l:=by simp[BV]
theorem QB(a b:List Str):BV (a++b)=BV a+BV b:=by simp[BV]
theorem Tf(row:List UInt8):BV (tell row)<=row.length+1:=by
 unfold tell;split
 ·simp[BV]
 ·simp[BV];omega
theorem Qo:∀ (l row:List UInt8),BV (Ae0 row l)<=row.length+l.length+1
 | [],row=>by rw[Ae0];simpa using Tf row
 |c :: t,row=>by
  rw[Ae0];split
  ·have:=Qo t (row++ [Hz c]);simp at this ⊢;omega
  ·have h1:=Qo t [];have h2:=Tf row;rw[QB];simp at h1 ⊢;omega
theorem Si(l:List UInt8):BV (words l)<=l.length+1/\2*(words l).length<=l.length+1:=by
 have h:=Qo l []
 have h2:∀m:List Str,(∀s∈m,1<=s.length)->2*m.length<=BV m:=fun m=>by
  induction m with
  |nil=>intro _;simp[BV]
  |cons s m ih=>intro hs;have a:=ih (fun x hx=>hs x (Cn _ hx));have b:=hs s CP;rw[Io,AD];omega
 have h3:=h2 (words l) (fun s hs=>(KQ l [] s hs).1);have h4:BV (words l)<=l.length+1:=by unfold words;simpa using h
 exact⟨h4,nj⟩
theorem SP(s:Str):∀l,BV (FJ l s)<=BV l+s.length+1
 | []=>by simp[FJ,BV]
 |x :: t=>by
  have:=SP s t;rw[FJ];split
  ·rw[Io,Io];omega
  ·split<;>simp only[Io]<;>omega
theorem PN:∀ (l h:List Str),BV (EZ h l)<=BV h+BV l
 | [],h=>by simp[EZ,BV]
 |x :: t,h=>by have h1:=PN t (FJ h x);have h2:=SP x h;unfold EZ at h1 ⊢;rw[List.foldl_cons,Io];omega
theorem Vq:∀m:List Str,BV (m.map (at64 :: ·))=BV m+m.length
 | []=>rfl
 |s :: m=>by rw[Ct,Io,Vq m,Io,AD,AD];omega
theorem jS(t s:List UInt8):2*BV (Ih t s)<=2*t.length+3*s.length+5:=by have h1:=PN (Iu t s) [];have h2:=Si t;have h3:=Si s;have h4:=Vq (words s);unfold Ih;unfold Iu at h1 ⊢;rw[QB]at h1;simp only[BV,List.map_nil,List.sum_nil]at h1 h2 h3 h4 ⊢;omega
theorem SB:∀ (ts:List (List Str)) (h:List Str),BV (ts.foldl EZ h)<=BV h+(ts.map BV).sum
 | [],h=>rX
 |t :: ts,h=>by have h1:=SB ts (EZ h t);have h2:=PN t h;rw[List.foldl_cons,Ct,GC];omega
theorem R7:∀ (t:List Str) (i:Str),i.length<=25->(∀s∈t,s.length<=25)->(EM i t).length<=BV t+t.length
 | [],_,_,_=>by simp[EM]
 |x :: t,i,hw,h=>by
  have hx:=h x CP;have ih:=R7 t x hx (fun s hs=>h s (Cn _ hs));have ha:=Lf i x;have hd:(Dy (x.drop (BF i x))).length<=1+x.length:=by unfold Dy Is;rw[Ag,Bu,Kh nz,AQ];omega
  rw[EM,Ag,Ag,Kh nj,Io,AD];omega
theorem kX{c:List Str}(h:∀s∈c,s.length<=25):(vZ c).length<=BV c+c.length:=by
 cases c with
 |nil=>simp[vZ]
 |cons x t=>
  have hx:=h x CP;have ih:=R7 t x hx (fun s hs=>h s (Cn _ hs));have hd:(Dy x).length=1+x.length:=by unfold Dy Is;rw[Ag,Bu,Kh nj]
  rw[vZ,Ag,Io,AD];omega
theorem SX{size:Nat}(h1:1<=size)(h2:size<=64):∀ (f:Nat) (l:List Str),(∀s∈l,s.length<=25)->((Ea size f l).flatMap vZ).length<=BV l+l.length/\((Ea size f l).flatMap fun c=>fZ (vZ c).length).length<=2*l.length
 |0,l,_=>by simp[Ea]
 |f+1,l,h=>by
  rw[Ea];split
  ·simp
  ·rename_i e;have hp:1<=l.length:=Gm.2 e;obtain⟨a,b⟩:=SX h1 h2 f (l.drop size) (fun s hs=>h s (Bz hs));have ht:∀s∈l.take size,s.length<=25:=fun s hs=>h s (BX hs);have c:=kX ht;have d:=Oa (l:=l.take size) ht;have g:(fZ (vZ (l.take size)).length).length<=2:=I0 (by rw[AY]at d;omega);have k:BV l=BV (l.take size)+BV (l.drop size):=(by rw[<-QB,ER]);rw[AQ]at a b;rw[AY]at c;rw[CD,CD,Ag,Ag];constructor<;>omega
theorem fV{size:Nat}{l:List Str}(h1:1<=size)(h2:size<=64)(h:∀s∈l,s.length<=25)(hl:l.length<=1000000):(Ec size l).length<=10+BV l+3*l.length:=by obtain⟨a,b⟩:=SX h1 h2 l.length l h;have c:=qZ (x:=l.length) nj;unfold Ec Hk;rw[Ag,Ag];omega
theorem eT{bound:Nat}{l:List Nat}(hb:bound<=60)(hm:Cu bound none l=true)(h0:l≠ [])(hn:l.length<=bound):(efO bound l).length<=24:=by
 have h:=Vv nj hm h0 hn;have h1:efO bound l=fZ l.length++bytesOf (Gf (efW bound l.length) l):=Aa h0;have h2:1<=l.length:=Gm.2 h0;have hq:1<=bound / l.length:=(Nat.one_le_div_iff nj).2 hn;have hW:l.length*efW bound l.length<=bound:=jy
 have i:=Iq (efW bound l.length) l;have z:=Ii bound l none hm;have hp:=(Mi bound l none hm).1;have j:=Ml (l.map (·/ 2 ^ efW bound l.length)) 0 bound (Bf _) (fun x hx=>by obtain⟨y,hy,rfl⟩:=CH.1 hx;exact⟨Bf _,AN (Ix _ _) (by have:=z y hy;omega)⟩) (List.Pairwise.map _ (fun a b h=>Nat.div_le_div_right h) hp);rw[Bu]at j;rw[h1,Ag,Kh nj,bytesOf_length];unfold Gf;rw[Ag,i];omega
theorem RD:∀l:List Rec,2*((((l.map oZ).map BV).sum:Nat):Int)<=3*BC l
 | []=>by simp[Kq]
 |r :: l=>by
  have ih:=RD l;have e:BC (r :: l)=Aa7 r+BC l:=sd
  have h:=jS r.text.data.toList r.source.data.toList;have h1:r.text.data.toList.length=r.text.size:=Array.length_toList;have h2:r.source.data.toList.length=r.source.size:=Array.length_toList;rw[h1,h2]at h;have h3:2*BV (oZ r)<=2*r.text.size+3*r.source.size+5:=h;rw[Ct,Ct,GC,e];unfold Aa7;omega
theorem Y3{l:List Rec}(h:∀r∈l,BR r)(hl:∀r∈l,Cq r=false):((sZ false l).length:Int)<=BC l:=by
 induction l with
 |nil=>simp[sZ,Kq]
 |cons r l ih=>
  have ih:=ih (fun x hx=>h x (Cn _ hx)) (fun x hx=>hl x (Cn _ hx));have e:BC (r :: l)=Aa7 r+BC l:=sd
  obtain⟨q1,q2⟩:=IN (hl r CP);have a:(Bc r.source).length<=2+r.source.size:=by unfold Bc;rw[Ag,Lo];have:=I0 (x:=r.source.size) nj;omega
  have b:(Bc r.text).length<=2+r.text.size:=by unfold Bc;rw[Ag,Lo];have:=I0 (x:=r.text.size) nj;omega
  have c:sZ false (r :: l)=CF false r++sZ false l:=rfl;have d:CF false r=Bc r.source++Bc r.text:=rfl;rw[c,d,e,Ag,Ag];unfold Aa7;omega
theorem Qt:∀ (l:List Int) (a:Int),(∀x∈l,0<=x)->a<=l.foldl (·+ ·) a
 | [],a,_=>rX
 |x :: l,a,h=>by have:=Qt l (a+x) (fun y hy=>h y (by simp[hy]));have:=h x rX;rw[List.foldl_cons];omega
theorem dN{l:List Rec}{r:Rec}(hr:r∈l):Aa7 r<=BC l:=by
 obtain⟨a,b,rfl⟩:=List.append_of_mem hr;have hp:∀x∈(List.map Aa7 b),0<=x:=fun x hx=>by obtain⟨y,_,rfl⟩:=CH.1 hx;unfold Aa7;omega
 have hq:∀x∈(List.map Aa7 a),0<=x:=fun x hx=>by obtain⟨y,_,rfl⟩:=CH.1 hx;unfold Aa7;omega
 have h1:=Qt _ 0 hq;have h2:=Qt _ ((List.map Aa7 a).foldl (·+ ·) 0+Aa7 r) hp;unfold BC;rw[FA,Ct,List.foldl_append,List.foldl_cons];omega
theorem Se{l:List Rec}(hn:(l.length:Int)<=60)(hw:BC l<=4000):CI l=0:=by
 have i:¬l.any Cq=true:=by intro h;obtain⟨r,hr,hl⟩:=List.any_eq_true.1 h;have:=dN hr;unfold Aa7 at this;unfold Cq at hl;simp at hl;omega
 unfold CI;rw[Aa nj,Aa i,Aa nj]
theorem i6{o:Opt}{l:List Rec}(ho:Dj o=0)(h1:l.length<=60)(h2:BC l<=4000)(j:∀r∈l,BR r)(hk:CI l=0):
 (AZ (l.map oZ)).length<=20000/\(Ah4 o l).length<=99000/\(sZ false l).length<=16000/\(CY o l).length<=99000:=by
 have hw:=RD l;have hs:BV (AZ (l.map oZ))<=6000:=by have:=SB (l.map oZ) [];have e:BV ([]:List Str)=0:=rfl;unfold AZ;omega
 have hn:2*(AZ (l.map oZ)).length<=BV (AZ (l.map oZ)):=by
  have h:=KW (l:=l) (by have:=LL l;have:=Oh (l.map oZ);omega)
  have h3:∀m:List Str,(∀s∈m,1<=s.length)->2*m.length<=BV m:=fun m=>by
   induction m with
   |nil=>intro _;simp[BV]
   |cons s m ih=>intro hs;have a:=ih (fun x hx=>hs x (Cn _ hx));have b:=hs s CP;rw[Io,AD];omega
  exact h3 _ (fun s hs=>(JV h s hs).1)
 have h:=KW (l:=l) nj;obtain⟨_,_,b3,b4⟩:=NP ho;have i:=L8 l;have hd:=fV (size:=o.bucket.toNat) (l:=AZ (l.map oZ)) nj nj (fun s hs=>(JV h s hs).2) nj;have hl:=PZ (bound:=l.length) (C:=24) (ls:=(AZ (l.map oZ)).map (Cy (l.map oZ))) (fun x hx=>by have h3:=i.2 x hx;exact eT h1 (GE.1 i.1 x hx) h3.1 h3.2);rw[Bu]at hl;have hx:(Ah4 o l).length<=88000:=by unfold Ah4 ixO;rw[Ag];omega
 have hb:=Y3 j (KJ hk);refine⟨nj,nj,nj,?_⟩;have L:=NU o l;have M:=LZ o l;have N:=L4 false o.plain (Dm o l) l nj;have J:=Lj j nj;have hF:∀s∈(CG false o.plain (Dm o l) l).map List.length,s<=(CG false o.plain (Dm o l) l).flatten.length:=fun s hs=>by rw[List.length_flatten];exact Ah6 hs
 have E:=On (n:=l.length) (G:=Dm o l) (S:=(CG false o.plain (Dm o l) l).map List.length) (x:=(AU (DJ l)).length) (y:=(AU (Ah4 o l)).length) nj nj (fun z hz=>by have:=Ah6 hz;omega) (fun z hz=>by have:=hF z hz;omega) pn pn;unfold CY EI;simp only[List.length_append];rw[Dt,Dt,Dt];have h4:∀z,(CU z).length=4:=fun _=>rfl;rw[h4];rw[Dt,Dt]at E;omega
open Go.RowKit
structure Small (o:Opt) (l:List Rec):Prop where
 ob:Dj o=0
 n:l.length<=60
 ck:CI l=0
 ok:∀r∈l,BR r
 t:(AZ (l.map oZ)).length<=20000
 x:(Ah4 o l).length<=99000
 b:(sZ false l).length<=16000
 m:(CY o l).length<=99000
theorem Small.of{o:Opt}{l:List Rec}(ho:Dj o=0)(h1:(l.length:Int)<=60)(h2:BC l<=4000)(h:∀r∈l,BR r):Small o l:=by have hk:=Se h1 h2;obtain⟨a,b,c,d⟩:=i6 ho nj h2 h hk;exact⟨ho,nj,hk,h,a,b,c,d⟩
theorem cI{o:Opt}{l:List Rec}(h:∀r∈l,BR r):∀x∈CY o l,x<=255:=Ue (SV false o.plain _ l h) (WU h) (Wc o l)
theorem qV{w:World}{base c:Nat}{A:Option Addr}(h:w.ownsRow base 5 1 (.slice A n c) n (dZ .u8 ls))(hn:ls.length=n):Row w w A n 1 (jZ .u8 ls):=by subst hn;exact Ab5 h
end
section
variable{w w':World}{base g gb r:Nat}{er:Int}{C L S T ls:List Nat}{F:List (List Nat)}{K:List Bool}
open Go.RowKit
theorem LX{c at_:Nat}{bs:List Nat}{A:Option Addr}{t:TypeId}{cs:Array Value}(h:Cur w g base bs A c at_ er)(ht:t≠243/\5≠t)(hr:Blk w r t cs)(k:Nat)(u:Value):Cur (w.setCell ⟨r,k,none⟩ u) g base bs A c at_ er:=
 ⟨h.blk.far (fun e=>Blk.apart hr h.blk ht.1 e.symm) _,BK h.own (gZ h.own hr ht.2) _,h.le,h.lo⟩
theorem RZ(h:TabAt w)(hk:Kept (fun x=>x<w.heap.size/\x≠r/\x≠g) w w')(hr:0<r)(hg:0<g):TabAt w':=fun i hi=>(World.cell?_of_block (a:=⟨_,i,none⟩) (hk.block _ ⟨h.lt,Nat.ne_of_lt hr,Nat.ne_of_lt hg⟩)).trans (h i hi)
theorem a0e{p:Prop}(h:p:=by
  have q2:=Z.out.ia 2;have f2:=Z.out.frozen 2;have ba:Blk (w4.setCell ⟨r,2,none⟩ (.bool pb)) r 213 #[.pointer (some ⟨g,0,none⟩), .int .i64 (S:Nat),pb,ij,ij,ij,ij]:=by simpa using Z.out.set 2 (.bool pb)
  have ac:Cur (w4.setCell ⟨r,2,none⟩ (.bool pb)) g base ls B d a2 bO:=LX a5.out ip Z.out _ _;have av:Hid (Kept (fun x=>x<w.heap.size/\x≠r/\x≠g) w (w4.setCell ⟨r,2,none⟩ (.bool pb))):=a9.out.set (fun h=>h.2.1 rfl) _;have bd:=hid ac;have aj:=hid ba;have q0:=aj.out.ia 0;have D5:=hid (D5.out _ bd.out);clear ba ac a5 a9 p0;go_wp2_with fail;refine D5.out.mono ?_;rintro e w5 ⟨rfl,bc,G⟩;have be:=(G.block r ⟨aj.out.lt,ag⟩).trans aj.out;have aa:Hid (Blk w5 r 213 #[.pointer (some ⟨g,0,none⟩), .int .i64 (S:Nat),pb,ij,ij,ij,ij]):=be;have z4:=av.out.size;have bb:Hid (Kept (fun x=>x<w.heap.size/\x≠r/\x≠g) w w5):=av.out.trans ⟨G.os,G.tape,G.output,G.size,fun x hx=>G.block x ⟨nj,hx.2.2⟩⟩;have a8:=hid bc;have q3:=aa.out.ia 3;have f3:=aa.out.frozen 3;have ax:Blk (w5.setCell ⟨r,3,none⟩ (.int .i64 (K:Nat))) r 213 #[.pointer (some ⟨g,0,none⟩), .int .i64 (S:Nat),pb, .int .i64 (K:Nat),ij,ij,ij]:=by simpa using aa.out.set 3 (.int .i64 (K:Nat))
  have bk:Hid (Cur (w5.setCell ⟨r,3,none⟩ (.int .i64 (K:Nat))) g base ls B d a3 e3):=LX a8.out ip aa.out _ _;have ar:Hid (Kept (fun x=>x<w.heap.size/\x≠r/\x≠g) w (w5.setCell ⟨r,3,none⟩ (.int .i64 (K:Nat)))):=bb.out.set (fun h=>h.2.1 rfl) _;have aq:=hid ax;have q6:=aq.out.ia 0;have D6:=hid (D6.out _ bk.out);clear ax be bc G a8 bb bd av D5 q0;go_wp2_with fail;refine D6.out.mono ?_;rintro e w7 ⟨v7,rfl,_,bf,E⟩;have bg:=(E.block r ⟨aq.out.lt,ag⟩).trans aq.out;have ak:Hid (Blk w7 r 213 #[.pointer (some ⟨g,0,none⟩), .int .i64 (S:Nat),pb, .int .i64 (K:Nat),ij,ij,ij]):=bg;have z6:=ar.out.size;have L:Hid (Kept (fun x=>x<w.heap.size/\x≠r/\x≠g) w w7):=ar.out.trans ⟨E.os,E.tape,E.output,E.size,fun x hx=>E.block x ⟨nj,hx.2.2⟩⟩;have Y:=hid bf;have q7:=ak.out.ia 0;have D7:=hid (Dn w7 g base ls B d a4 e4 Y.out);have D8:=hid (Ig w7 g base ls B d a4 e4 Y.out);have z7:=L.out.size;clear bg bf E bk ar D6 q6 q3 f3 q2 f2;go_wp2_with fail;refine D7.out.mono ?_;rintro e w8 ⟨rfl,rfl⟩;by_cases Q:e4=0
  ·subst Q;have ai:Row w8 w8 X a4 1 (jZ .u8 (ls.take a4)):=(Fj hX bC).keep (fun a ha=>World.cell?_of_block (a:=a) (L.out.block a.block ⟨nj,nj,nj⟩)) |>.mono nj;have D9:=KF w8 X a4 c (ls.take a4) (by rw[AY,hn];omega) nj nj (fun x hx=>h8 x (BX hx)) (RZ ht L.out nj nj) ai;unfold GK at D9;have ks:=fun wx=>EG (P:=prog) (t:=28) (s:=1) underlying28 (fun _=>by kernel_rfl) X n c .i64 (a4:Int) a4 rfl nj (fun a _=>rfl) wx;have hE:=HE.out.1 rfl;generalize AJ (ls.take a4)=co at *;generalize BI (ls.take a4)=ce at *;have D9:=hid D9;have U:=hid hE;clear ai hE;go_wp2_with fail;refine D8.out.mono ?_;rintro e w9 ⟨rfl,rfl⟩;go_wp2_with fail;refine D9.out.mono ?_;rintro e z ⟨b6,rfl,ah,J⟩;have M:Hid (Kept (fun x=>x<w.heap.size/\x≠r/\x≠g) w z):=L.out.trans (Kept.of_below J (fun x hx=>by have:=hx.1;omega));have i:=hid (ak.out.step J);have a6:=hid (Y.out.step J);obtain⟨b5,b4,rfl⟩:=bZ ah;clear ah J D9 Y ak L q7;by_cases N:ce=0
   ·subst N;have hE:=U.out.1 rfl;have DA:=hid (fun wx (hb:Below z z wx)=>Ig wx g base ls B d a4 0 (a6.out.step hb));have DK:=hid (fun wx=>KV wx ⟨(S:Nat),pb,(K:Nat),0,0,0⟩);unfold Opt.val at DK;have ay:Hid (∀wx,Below z z wx->wx.cell? ⟨r,0,none⟩=some (.pointer (some ⟨g,0,none⟩))/\wx.cell? ⟨r,1,none⟩=some (.int .i64 (S:Nat))/\wx.cell? ⟨r,2,none⟩=some (.bool pb)/\wx.cell? ⟨r,3,none⟩=some (.int .i64 (K:Nat))/\wx.cell? ⟨r,4,none⟩=some (.int .i64 0)/\wx.cell? ⟨r,5,none⟩=some (.int .i64 0)/\wx.cell? ⟨r,6,none⟩=some (.int .i64 0)):=fun wx hb=>⟨(i.out.step hb).cell 0,(i.out.step hb).cell 1,(i.out.step hb).cell 2,(i.out.step hb).cell 3,(i.out.step hb).cell 4,(i.out.step hb).cell 5,(i.out.step hb).cell 6⟩;simp only at DK;generalize CT ⟨(S:Nat),pb,(K:Nat),0,0,0⟩=oe at *;have j:=hid hE;clear hE U;go_wp2_with fail;go_region_held3 (fun wx=>wx.cell? ⟨r,0,none⟩=some (.pointer (some ⟨g,0,none⟩))/\wx.cell? ⟨r,1,none⟩=some (.int .i64 (S:Nat))/\wx.cell? ⟨r,2,none⟩=some (.bool pb)/\wx.cell? ⟨r,3,none⟩=some (.int .i64 (K:Nat))/\wx.cell? ⟨r,4,none⟩=some (.int .i64 0)/\wx.cell? ⟨r,5,none⟩=some (.int .i64 0)/\wx.cell? ⟨r,6,none⟩=some (.int .i64 0)) (exact ay.out _ sT) (first|(go_at_call 195;(with_reducible refine(DA.out _ sT).mono ?_);rintro e wA ⟨rfl,rfl⟩)|(go_at_call 92;(with_reducible refine(DK.out _).mono ?_);rintro e wB ⟨rfl,a7⟩;have BB:Below z z wB:=cZ a7 sT))
    all_goals
     have bh:=hid BB;clear a7 BB;go_wp2_with fail;go_ret2;rw[j.out.1,j.out.2];exact⟨rfl,M.out.trans (Kept.of_below bh.out (fun x hx=>by have:=hx.1;have:=M.out.size;omega)),fun _=>i.out.step bh.out⟩
   ·have gE:(ce != 0)=true:=(by simpa using N);have hE:=U.out.2 N;have j:=hid hE;have al:=hid N;clear N hE U;go_wp2_with fail;go_ret2;rw[j.out.1,j.out.2];exact⟨rfl,M.out,fun h=>absurd h al.out⟩
  ·have gE:(e4 != 0)=true:=(by simpa using Q);have hE:=HE.out.2 Q;have j:=hid hE;have al:=hid Q;clear Q hE;go_wp2_with fail;go_ret2;rw[j.out.1,j.out.2];exact⟨rfl,L.out,fun h=>absurd h al.out⟩):p:=h
theorem Ak3(w:World)(r g base rb:Nat)(ls:List Nat)(B:Option Addr)(d:Nat)(X:Option Addr)(n c:Nat)(hn:ls.length=n)(cf:n<=100000)(b8:n<=c)(h8:∀x∈ls,x<=255)(ht:TabAt w)(cc:0<rb)(hX:Row w rb X n 1 (jZ .u8 ls))(cd:rb<=g/\rb<=r)(h:Cur w g base ls B d 0 0)(hr:Blk w r 213 #[.pointer (some ⟨g,0,none⟩),ij,false,ij,ij,ij,ij]):
 Calls prog 158 #[.pointer (some ⟨r,0,none⟩), .slice X n c] w fun e w'=>e= .returned (.tuple #[.int .i64 (G6 ls:Nat), .int .i64 (EX ls)])/\Kept (fun x=>x<w.heap.size/\x≠r/\x≠g) w w'/\(EX ls=0->Blk w' r 213 #[.pointer (some ⟨g,0,none⟩), .int .i64 (tS ls:Nat), .bool (decide (tP ls=1)), .int .i64 (tK ls:Nat),ij,ij,ij]):=by
 have af:ls.length<=100000:=nj
 have ag:r≠g:=Blk.apart hr h.blk ip;have ca:=h.blk.lt;have b7:=hr.lt;have D1:=hid (JA w g base ls B d 0 0 5 af nj h);have D2:=hid (fun wx hx=>GO wx g base ls B d (tA0 ls) (tE0 ls) 32768 af h8 nj hx);have D3:=hid (fun wx hx=>NE wx g base ls B d (tA1 ls) (tE1 ls) af hx);have D4:=hid (fun wx hx=>GS wx g base ls B d (tA2 ls) (tE2 ls) 2 hx);have D5:=hid (fun wx hx=>GO wx g base ls B d (tA2 ls) (tF2 ls) 64 af h8 nj hx);have D6:=hid (fun wx hx=>JA wx g base ls B d (tA3 ls) (tE3 ls) 4 af nj hx);have hF:(1<tP ls->tF2 ls=ES (tE2 ls) 2)/\(¬1<tP ls->tF2 ls=tE2 ls):=⟨fun h=>Ab h,fun h=>Aa h⟩
 have hP:tP ls<=255:=by
  unfold tP Er;split
  ·omega
  ·rw[Aq];cases hq:ls[tA1 ls]? with
   |none=>simp
   |some y=>exact h8 y (Bp hq)
 have HE:Hid ((tE4 ls=0->(BI (ls.take (tA4 ls))=0->G6 ls=tA4 ls/\EX ls=CT ⟨(tS ls:Nat),decide (tP ls=1),(tK ls:Nat),0,0,0⟩)/\(BI (ls.take (tA4 ls))≠0->G6 ls=0/\EX ls=BI (ls.take (tA4 ls))))/\(tE4 ls≠0->G6 ls=0/\EX ls=tE4 ls)):=by
  refine⟨fun h=>⟨fun h2=> ?_,fun h2=> ?_⟩,fun h=> ?_⟩
  ·unfold G6 EX;rw[Aa sw,Aa (by simp[h2]),Aa sw,Aa (by simp[h2])];exact⟨rfl,rfl⟩
  ·unfold G6 EX;rw[Aa sw,Ab h2,Aa sw,Ab h2];exact⟨rfl,rfl⟩
  ·unfold G6 EX;rw[Ab h,Ab h];exact⟨rfl,rfl⟩
 have bC:tA4 ls<=n:=by rw[<-hn];exact Il ls _ _ _ (Ag7 h8 _ (Il ls _ _ _ (Ag7 h8 _ (Il ls 0 0 5 (Bf _)))))
 unfold JR at D1 D6;rw[show takeA ls 0 0 5=tA0 ls from rfl,show Bq ls 0 0 5=tE0 ls from rfl]at D1;rw[show AV 32768 ls (tA0 ls) (tE0 ls)=tS ls from rfl,show uZ 32768 ls (tA0 ls) (tE0 ls)=tA1 ls from rfl,show wZ 32768 ls (tA0 ls) (tE0 ls)=tE1 ls from rfl]at D2;rw[show Er ls (tA1 ls) (tE1 ls)=tP ls from rfl,show takeA ls (tA1 ls) (tE1 ls) 1=tA2 ls from rfl,show Bq ls (tA1 ls) (tE1 ls) 1=tE2 ls from rfl]at D3;rw[show AV 64 ls (tA2 ls) (tF2 ls)=tK ls from rfl,show uZ 64 ls (tA2 ls) (tF2 ls)=tA3 ls from rfl,show wZ 64 ls (tA2 ls) (tF2 ls)=tE3 ls from rfl]at D5;rw[show takeA ls (tA3 ls) (tE3 ls) 4=tA4 ls from rfl,show Bq ls (tA3 ls) (tE3 ls) 4=tE4 ls from rfl]at D6;generalize G6 ls=hN at *;generalize EX ls=b9 at *;generalize tA0 ls=a0 at *;generalize tE0 ls=e0 at *;generalize tS ls=S at *;generalize tA1 ls=a1 at *;generalize tE1 ls=e1 at *;generalize tP ls=P at *;generalize tA2 ls=a2 at *;generalize tE2 ls=e2 at *;generalize tF2 ls=bO at *;generalize tK ls=K at *;generalize tA3 ls=a3 at *;generalize tE3 ls=e3 at *;generalize tA4 ls=a4 at *;generalize tE4 ls=e4 at *;have HF:=hid hF;obtain⟨pb,bu⟩:∃pb,pb=decide (P=1):=⟨_,rfl⟩;rw[<-bu]at HE ⊢
 have gP:((P:Int)==1)=pb:=by
  rw[bu];by_cases h:P=1
  ·subst h;rfl
  ·rw[Be h,FW];omega
 have p0:=hr.ia 0;have b0:=hid hr;clear hF bu h hr;go_enter func158,ntmps158;go_wp2_with fail;refine D1.out.mono ?_;rintro e w1 ⟨v1,rfl,_,b1,ab⟩;have bx:Blk w1 r 213 #[.pointer (some ⟨g,0,none⟩),ij,false,ij,ij,ij,ij]:=(ab.block r ⟨b7,ag⟩).trans b0.out;have bS:Hid (Kept (fun x=>x<w.heap.size/\x≠r/\x≠g) w w1):=⟨ab.os,ab.tape,ab.output,ab.size,fun x hx=>ab.block x ⟨hx.1,hx.2.2⟩⟩;have bt:=hid bx;have p1:=bx.ia 0;have z1:=ab.size;have D2:=hid (D2.out _ b1);clear bx b1 ab D1 p0;go_wp2_with fail;refine D2.out.mono ?_;rintro e w2 ⟨rfl,bN,am⟩;have az:Blk w2 r 213 #[.pointer (some ⟨g,0,none⟩),ij,false,ij,ij,ij,ij]:=(am.block r ⟨bt.out.lt,ag⟩).trans bt.out;have bq:Hid (Kept (fun x=>x<w.heap.size/\x≠r/\x≠g) w (w2.setCell ⟨r,1,none⟩ (.int .i64 (S:Nat)))):=(bS.out.trans ⟨am.os,am.tape,am.output,am.size,fun x hx=>am.block x ⟨nj,hx.2.2⟩⟩).set (fun h=>h.2.1 rfl) _;have q1:=az.ia 1;have f1:=az.frozen 1;have bl:Hid (Blk (w2.setCell ⟨r,1,none⟩ (.int .i64 (S:Nat))) r 213 #[.pointer (some ⟨g,0,none⟩), .int .i64 (S:Nat),false,ij,ij,ij,ij]):=hid (by simpa using az.set 1 (.int .i64 (S:Nat)));have p2:=bl.out.ia 0;have D3:=hid (D3.out _ (LX bN ip az 1 (.int .i64 (S:Nat))));clear az bN am D2 bt bS p1 b0;go_wp2_with fail;refine D3.out.mono ?_;rintro e w3 ⟨rfl,bj,an⟩;have aw:Blk w3 r 213 #[.pointer (some ⟨g,0,none⟩), .int .i64 (S:Nat),false,ij,ij,ij,ij]:=(an.block r ⟨bl.out.lt,ag⟩).trans bl.out;have z2:=bq.out.size;have ae:Kept (fun x=>x<w.heap.size/\x≠r/\x≠g) w w3:=bq.out.trans ⟨an.os,an.tape,an.output,an.size,fun x hx=>an.block x ⟨nj,hx.2.2⟩⟩;clear an D3 bl bq p2 q1 f1;by_cases bm:1<P
 ·have gp:=ic ((1:Int)<P)
  have b3:=ic (1<P)
  have bi:=HF.out.1 bm;have D4:=hid (D4.out _ bj);rw[<-bi]at D4;have p3:=aw.ia 0;have z3:=ae.size;have bp:=hid aw;have bn:=hid ae;clear bm bi aw ae bj;go_wp2_with fail;refine D4.out.mono ?_;rintro e w4 ⟨rfl,ac,au⟩;have Z:Hid (Blk w4 r 213 #[.pointer (some ⟨g,0,none⟩), .int .i64 (S:Nat),false,ij,ij,ij,ij]):=(au.block r ag).trans bp.out;have a9:Hid (Kept (fun x=>x<w.heap.size/\x≠r/\x≠g) w w4):=bn.out.trans ⟨au.os,au.tape,au.output,au.size,fun x hx=>au.block x hx.2.2⟩;have a5:=hid ac;have p0:=p3;clear ac au D4 bp bn p3;exact a0e
 ·have gp:=ig ((1:Int)<P)
  have b3:=ig (1<P)
  have bi:=HF.out.2 bm;rw[<-bi]at bj;have Z:=hid aw;have a9:=hid ae;have a5:=hid bj;have p0:=aw.cell 0;clear bm bi aw ae bj D4;obtain⟨w4,rfl⟩:=ii w3;exact a0e
def tB(ls:List Nat):List Nat:=ls.drop (tA4 ls)
theorem Qz(ls:List Nat):FZ ls=if EH ls≠0 then EH ls else if FU ls≠2 then 4 else if EX ls≠0 then EX ls else Ei (tO ls) (tB ls):=rfl
theorem pY(h8:∀x∈ls,x<=255):tA4 ls<=ls.length:=
 Il ls _ _ _ (Ag7 h8 _ (Il ls _ _ _ (Ag7 h8 _ (Il ls 0 0 5 (Bf _)))))
theorem o6(h:EX ls=0):G6 ls=tA4 ls:=by
 unfold EX at h;unfold G6;split at h
 ·rename_i h1;exact absurd h h1
 ·rename_i h1;rw[Aa h1];split at h
  ·rename_i h2;exact absurd h h2
  ·rename_i h2;rw[Aa h2]
theorem BodyAt.mono{b2:Nat}{X:List Str×List (List Nat)}(h:BodyAt w base gb C S T L X F K)(hb:b2<=base):BodyAt w b2 gb C S T L X F K:=by obtain⟨vc,vs,p,q,vt,vl,vT,vL,vF,va,vals,fv,h0,h1,h2,h3,h4,h5,h6,h7⟩:=h;exact⟨vc,vs,p,q,vt,vl,vT,vL,vF,va,vals,fv,h0,kZ h1 hb,kZ h2 hb,kZ h3 hb,kZ h4 hb,⟨kZ h5.t hb,kZ h5.l hb,fun i v ids hv hi=>kZ (h5.r i v ids hv hi) hb⟩,h6.mono hb,kZ h7 hb⟩
theorem BodyAt.set{x:Nat}{cs:Array Value}{X:List Str×List (List Nat)}(h:BodyAt w base gb C S T L X F K)(hx:Blk w x 23 cs)(k:Nat)(u:Value):BodyAt (w.setCell ⟨x,k,none⟩ u) base gb C S T L X F K:=by obtain⟨vc,vs,p,q,vt,vl,vT,vL,vF,va,vals,fv,h0,h1,h2,h3,h4,h5,h6,h7⟩:=h;have far:∀ {n:Nat} {e:TypeId} {v:Value} {xs:List Value},w.ownsRow base e 1 v n xs->e≠23->(w.setCell ⟨x,k,none⟩ u).ownsRow base e 1 v n xs:=fun ho hne=>BK ho (gZ ho hx hne) _;exact⟨vc,vs,p,q,vt,vl,vT,vL,vF,va,vals,fv,h0.far (fun e=>Blk.apart hx h0 ip e.symm) _,far h1 ip,far h2 ip,far h3 ip,far h4 ip,⟨far h5.t ip,far h5.l ip,fun i v ids hv hi=>far (h5.r i v ids hv hi) ip⟩,h6.set hx ip ip k u,far h7 ip⟩
def Qn(ls:List Nat)(w:World)(e:Ending)(w':World):Prop:=
 Below w w w'/\(FZ ls≠0->e= .returned (.tuple #[.agg #[ij,false,ij,ij,ij,ij], .pointer none, .int .i64 (FZ ls)]))/\
  (FZ ls=0->∃gb,e= .returned (.tuple #[(tO ls).val, .pointer (some ⟨gb,0,none⟩),ij])/\BodyAt w' w gb (BM (zZ (tB ls))) (Cc (zZ (tB ls))) (By (oN (tB ls)) (AJ (Cr (tB ls)))).1 (By (oN (tB ls)) (AJ (Cr (tB ls)))).2.1 (Ah5 (tO ls).bucket.toNat (oN (tB ls)) (AJ (Fu (tB ls)))).1 (CA (Cc (zZ (tB ls))) ((tB ls).take (Dd (tB ls)))) (List.replicate (Cc (zZ (tB ls))).length false))
theorem MZ(hE:FZ ls=er)(i:er≠0)(hb:Below w w w'):Qn ls w (.returned (.tuple #[.agg #[ij,false,ij,ij,ij,ij], .pointer none,er])) w':=sN
theorem iF(w:World)(o:Opt)(A:Option Addr)(n c:Nat)(ls:List Nat)(hn:ls.length=n)(y:n<=100000)(hc:n<=c)(h8:∀x∈ls,x<=255)(j:A=none->n=0/\c=0)(ht:TabAt w)(ha:Row w w A n 1 (jZ .u8 ls)):
 Calls prog 13 #[o.val, .slice A n c] w (fun e w'=>∃pv,e= .returned (.tuple #[.pointer pv, .int .i64 (Ei o ls)])/\Below w w w'/\(Ei o ls=0->∃gb,pv=some ⟨gb,0,none⟩/\BodyAt w' w gb (BM (zZ ls)) (Cc (zZ ls)) (By (oN ls) (AJ (Cr ls))).1 (By (oN ls) (AJ (Cr ls))).2.1 (Ah5 o.bucket.toNat (oN ls) (AJ (Fu ls))).1 (CA (Cc (zZ ls)) (ls.take (Dd ls))) (List.replicate (Cc (zZ ls)).length false))):=by
 refine(nS w o A n c ls hn y hc h8 j ht ha).mono ?_;rintro e w' ⟨hb,i,E⟩;by_cases h:Ei o ls=0
 ·obtain⟨gb,rfl,z⟩:=E h;exact⟨_,by rw[h],hb,fun _=>⟨gb,rfl,z⟩⟩
 ·exact⟨none,i h,hb,fun h2=>absurd h2 h⟩
theorem a0n{p:Prop}(h:p:=by
  have j:=HZ.out;obtain⟨v0,v1,v2,v3,v4,v5⟩:=j.six;obtain⟨aj,a1,ar,av,al,az⟩:=j.sixf;have y:=hid j;clear j;go_wp2_with fail;refine Bx (v:= .tuple #[.agg #[ij,false,ij,ij,ij,ij], .pointer none, .int .i64 er]) ?_ rfl ?_
  ·have i:=(((((y.out.set 0 (.int .i64 0)).set 1 (.bool false)).set 2 (.int .i64 0)).set 3 (.int .i64 0)).set 4 (.int .i64 0)).set 5 (.int .i64 0);have e0:=i.cell 0;have e1:=i.cell 1;have e2:=i.cell 2;have e3:=i.cell 3;have e4:=i.cell 4;have e5:=i.cell 5;simp at e0 e1 e2 e3 e4 e5;simp[results,results89,go_sem,e0,e1,e2,e3,e4,e5]
  ·refine MZ (HO.out.symm.trans HF.out) L.out ?_
   repeat (first|((with_reducible refine BS ?_ ?_);(focus (exact Ak _)))|(with_reducible refine Am ?_))
   first|(with_reducible exact z.out)|(with_reducible exact Am z.out)|(with_reducible exact below_drewN z.out _)):p:=h
theorem a0v{p:Prop}(h:p:=by have e0:=i.cell 0;have e1:=i.cell 1;have e2:=i.cell 2;have e3:=i.cell 3;have e4:=i.cell 4;have e5:=i.cell 5;simp at e0 e1 e2 e3 e4 e5;simp[results,results89,go_sem,e0,e1,e2,e3,e4,e5]):p:=h
theorem bA(w:World)(A:Option Addr)(n c:Nat)(ls:List Nat)(hn:ls.length=n)(a9:n<=100000)(hc:n<=c)(h8:∀x∈ls,x<=255)(Z:A=none->n=0/\c=0)(ht:TabAt w)(ha:Row w w A n 1 (jZ .u8 ls)):
 Calls prog 89 #[.slice A n c] w (Qn ls w):=by
 have a8:Hid (∀wx,Below w w wx->Row wx wx A n 1 (jZ .u8 ls)):=fun wx h=>(ha.below h).mono h.size;have D0:=hid (fun wx (hb:Below w w wx)=>Wo wx A n c ls hn a9 hc h8 (a8.out wx hb));have D1:=hid (fun wx (hb:Below w w wx)=>Ab7 wx A n c ls hn a9 Z (a8.out wx hb));have HT:=hid ht;have HN:=hid hn;have H8:=hid h8;have bi:=hid Z;have HA:=hid ha;obtain⟨O,hO⟩:=ii (FZ ls);have HO:=hid hO;rw[Qz]at hO;generalize EH ls=me at *;generalize FU ls=mv at *;have U:=hid hO;clear hO ha Z h8 ht hn a8;go_enter func89,ntmps89;go_wp2_with fail;have bk:Blk (w.alloc (.cells #[ij,false,ij,ij,ij,ij] 23)) w 23 #[ij,false,ij,ij,ij,ij]:=Blk.made _ _ _;have ai:Below w w (w.alloc (.cells #[ij,false,ij,ij,ij,ij] 23)):=aZ (Ae _ _);have bS:w.heap.size+1<=(w.alloc (.cells #[ij,false,ij,ij,ij,ij] 23)).heap.size:=rX
 generalize w.alloc (.cells #[ij,false,ij,ij,ij,ij] 23)=w1 at *;have HZ:=hid bk;have aw:=hid ai;have D0:=hid (D0.out w1 ai);have D1:=hid (D1.out w1 ai);clear bk ai;refine D0.out.mono ?_;rintro e wm ⟨rfl,bx⟩;obtain rfl:=bx.symm;by_cases N:me=0
 ·subst N;have hO:=U.out;rw[Aa (show ¬((0:Int)≠0) from fun h=>h rfl)]at hO;by_cases ac:mv=2
  ·have gV:((mv:Int) != 2)=false:=(by rw[ac];rfl);rw[Aa (fun h=>h ac)]at hO;have au:=hid hO;clear hO U D0 ac;go_wp2_with fail;refine D1.out.mono ?_;rintro e w2 ⟨g,B,d,rfl,a3,ae⟩;have be:=hid (HZ.out.step ae);have bd:Hid (Below w w w2):=aw.out.trans (ae.mono nj);have z2:=ae.size;have am:=hid a3;clear a3 ae D1 HZ aw;go_wp2_with fail;have bf:Blk (w2.alloc (.cells #[.pointer (some ⟨g,0,none⟩),ij,false,ij,ij,ij,ij] 213)) w2 213 #[.pointer (some ⟨g,0,none⟩),ij,false,ij,ij,ij,ij]:=Blk.made _ _ _;have aq:Below w2 w2 (w2.alloc (.cells #[.pointer (some ⟨g,0,none⟩),ij,false,ij,ij,ij,ij] 213)):=aZ (Ae _ _);have b3:w2.heap.size+1<=(w2.alloc (.cells #[.pointer (some ⟨g,0,none⟩),ij,false,ij,ij,ij,ij] 213)).heap.size:=rX;generalize w2.alloc (.cells #[.pointer (some ⟨g,0,none⟩),ij,false,ij,ij,ij,ij] 213)=w3 at *;have aa:=am.out.step aq;have bO:=am.out.blk.lt;have bC:=am.out.lo;have bp:=hid (be.out.step aq);have an:Hid (Below w w w3):=bd.out.trans (aq.mono nj);have b1:w1.heap.size<=w2.heap.size:=z2;generalize w2.heap.size=r at *;have bm:=HT.out.lt;have DR:=hid (Ak3 w3 r g w1 w ls B d A n c HN.out a9 hc H8.out (HT.out.step an.out) bm (HA.out.below an.out) ⟨nj,nj⟩ aa bf);have ak:Hid (EX ls=0->G6 ls=tA4 ls):=o6;have bl:tA4 ls<=n:=(by rw[<-HN.out];exact pY H8.out);generalize EX ls=he at *;obtain⟨k,hk⟩:=ii (tA4 ls);rw[<-hk]at ak bl;generalize G6 ls=hN at *;clear bf aq aa am be bd bm;refine DR.out.mono ?_;rintro e w4 ⟨rfl,ax,Y⟩;have z4:=ax.size;have E:Hid (Below w w w4):=an.out.trans (ax.below fun b h=>⟨nj,nj,nj⟩);have M:Hid (Blk w4 w 23 #[ij,false,ij,ij,ij,ij]):=(ax.block w ⟨nj,nj,nj⟩).trans bp.out;have ag:=hid hk;clear hk DR an bp ax;by_cases ab:he=0
   ·subst ab;have a7:=Y rfl;obtain rfl:hN=k:=ak.out rfl;have hO:=au.out;rw[Aa (show ¬((0:Int)≠0) from fun h=>h rfl)]at hO;have bq:(tB ls).length=n-hN:=(by unfold tB;rw[AQ,HN.out,<-ag.out]);have a4:Row w w (AR A hN c 1) (n-hN) 1 (jZ .u8 (tB ls)):=by unfold tB;rw[<-ag.out];exact ET HA.out bl hc
    have bg:AR A hN c 1=none->n-hN=0/\c-hN=0:=fun h=>by
     unfold AR at h;split at h
     ·exact⟨nj,nj⟩
     ·cases hA:A with
      |none=>have:=bi.out hA;omega
      |some a=>rw[hA]at h;cases h
    have D2:=hid (fun wx (hb:Below w4 w4 wx)=>iF wx (tO ls) (AR A hN c 1) (n-hN) (c-hN) (tB ls) bq nj nj (fun x hx=>H8.out x (Bz hx)) bg (HT.out.step (E.out.trans (hb.mono E.out.size))) ((a4.below (E.out.trans (hb.mono E.out.size))).mono (AN E.out.size hb.size)));have ks:=fun wx=>Gr (P:=prog) (t:=28) (s:=1) underlying28 (fun _=>by kernel_rfl) A n c .i64 (hN:Int) hN rfl nj wx;generalize AR A hN c 1=A1 at *;generalize n-hN=n1 at *;generalize c-hN=c1 at *;have ay:=hid hO;have a0:Hid ((tO ls).val= .agg #[.int .i64 (tS ls:Nat), .bool (decide (tP ls=1)), .int .i64 (tK ls:Nat),ij,ij,ij]):=rfl;obtain⟨ov,ba⟩:=ii ((tO ls).val);rw[<-ba]at D2 a0;have bj:=hid ba;obtain⟨S,hS⟩:=ii (tS ls);obtain⟨pb,bh⟩:∃pb,pb=decide (tP ls=1):=⟨_,rfl⟩;obtain⟨K,hK⟩:=ii (tK ls);rw[<-hS,<-bh,<-hK]at a7 a0;obtain rfl:ov=_:=a0.out;have G:=hid a7;have bb:Hid (∀wx,Below w4 w4 wx->wx.cell? ⟨r,0,none⟩=some (.pointer (some ⟨g,0,none⟩))/\wx.cell? ⟨r,1,none⟩=some (.int .i64 (S:Nat))/\wx.cell? ⟨r,2,none⟩=some (.bool pb)/\wx.cell? ⟨r,3,none⟩=some (.int .i64 (K:Nat))/\wx.cell? ⟨r,4,none⟩=some (.int .i64 0)/\wx.cell? ⟨r,5,none⟩=some (.int .i64 0)/\wx.cell? ⟨r,6,none⟩=some (.int .i64 0)):=fun wx hb=>⟨(G.out.step hb).cell 0,(G.out.step hb).cell 1,(G.out.step hb).cell 2,(G.out.step hb).cell 3,(G.out.step hb).cell 4,(G.out.step hb).cell 5,(G.out.step hb).cell 6⟩;generalize Ei (tO ls) (tB ls)=oe at *;clear a7 hO bq a4 bg ba hS bh hK a0 Y ak au HT HN H8 bi HA ag;go_wp2_with fail;go_region_held3 (fun wx=>wx.cell? ⟨r,0,none⟩=some (.pointer (some ⟨g,0,none⟩))/\wx.cell? ⟨r,1,none⟩=some (.int .i64 (S:Nat))/\wx.cell? ⟨r,2,none⟩=some (.bool pb)/\wx.cell? ⟨r,3,none⟩=some (.int .i64 (K:Nat))/\wx.cell? ⟨r,4,none⟩=some (.int .i64 0)/\wx.cell? ⟨r,5,none⟩=some (.int .i64 0)/\wx.cell? ⟨r,6,none⟩=some (.int .i64 0)) (exact bb.out _ sT) (first|(go_at_call 13;(with_reducible refine(D2.out _ sT).mono ?_);rintro e w5 ⟨pv,rfl,a6,a5⟩;have BB:Below w4 w4 w5:=cZ a6 sT))
    all_goals
     have bc:Hid (Below w w w5):=E.out.trans (BB.mono E.out.size);have af:=hid (M.out.step BB);have J:=G.out.step BB;by_cases ah:oe=0
     ·subst ah;obtain⟨gb,rfl,bn⟩:=a5 ja;have bt:=hid (bn.mono (b2:=w.heap.size) (by show _<=w4.heap.size;exact E.out.size));have bu:Hid (FZ ls=0):=HO.out.symm.trans ay.out;have j:=af.out;obtain⟨v0,v1,v2,v3,v4,v5⟩:=j.six;obtain⟨aj,a1,ar,av,al,az⟩:=j.sixf;have s0:=J.ia 0;have s1:=J.ia 1;have s2:=J.ia 2;have s3:=J.ia 3;have s4:=J.ia 4;have s5:=J.ia 5;have s6:=J.ia 6;have y:=hid j;have b0:¬r=w.heap.size:=nj;have bN:¬w.heap.size=r:=nj;clear j J bn a5 a6 BB bb G M af D2 ay E;go_wp2_with fail;refine Bx (v:= .tuple #[.agg #[.int .i64 (S:Nat),pb, .int .i64 (K:Nat),ij,ij,ij], .pointer (some ⟨gb,0,none⟩),ij]) ?_ rfl ?_
      ·have i:=((((((y.out.set 0 (.int .i64 (S:Nat))).set 1 (.bool pb)).set 2 (.int .i64 (K:Nat))).set 3 (.int .i64 0)).set 4 (.int .i64 0)).set 5 (.int .i64 0));exact a0v
      ·refine⟨?_,fun h=>absurd bu.out h,fun _=>⟨gb,by rw[<-bj.out],?_⟩⟩
       ·repeat (first|((with_reducible refine BS ?_ ?_);(focus (exact Ak _)))|(with_reducible refine Am ?_))
        exact bc.out
       ·exact((((((bt.out.set y.out 0 (.int .i64 (S:Nat))).set (y.out.set 0 (.int .i64 (S:Nat))) 1 (.bool pb)).set ((y.out.set 0 (.int .i64 (S:Nat))).set 1 (.bool pb)) 2 (.int .i64 (K:Nat))).set (((y.out.set 0 (.int .i64 (S:Nat))).set 1 (.bool pb)).set 2 (.int .i64 (K:Nat))) 3 (.int .i64 0)).set ((((y.out.set 0 (.int .i64 (S:Nat))).set 1 (.bool pb)).set 2 (.int .i64 (K:Nat))).set 3 (.int .i64 0)) 4 (.int .i64 0)).set (((((y.out.set 0 (.int .i64 (S:Nat))).set 1 (.bool pb)).set 2 (.int .i64 (K:Nat))).set 3 (.int .i64 0)).set 4 (.int .i64 0)) 5 (.int .i64 0))
     ·have gE:(oe != 0)=true:=(by simpa using ah);have HF:Hid (O=oe):=ay.out;have L:=hid ah;have HZ:=af;have z:=bc;obtain⟨er,Q⟩:∃er:Int,er=oe:=⟨_,rfl⟩;subst Q;clear ah ay a5 a6 BB bb G M af D2 E J;exact a0n
   ·have gE:(he != 0)=true:=(by simpa using ab);have HF:Hid (O=he):=(by have h:=au.out;rw[Ab ab]at h;exact h);have L:=hid ab;have HZ:=M;have z:=E;obtain⟨er,Q⟩:∃er:Int,er=he:=⟨_,rfl⟩;subst Q;clear ab au Y M E ak ag;exact a0n
  ·have gV:((mv:Int) != 2)=true:=qr;have HF:Hid (O=4):=(by rw[Ab ac]at hO;exact hO);have L:Hid ((4:Int)≠0):=show(4:Int)≠0 by decide
   have z:=aw;clear ac hO U D0 D1;have j:=HZ.out;obtain⟨v0,v1,v2,v3,v4,v5⟩:=j.six;obtain⟨aj,a1,ar,av,al,az⟩:=j.sixf;have y:=hid j;clear j;go_wp2_with fail;refine Bx (v:= .tuple #[.agg #[ij,false,ij,ij,ij,ij], .pointer none, .int .i64 4]) ?_ rfl ?_
   ·have i:=(((((y.out.set 0 (.int .i64 0)).set 1 (.bool false)).set 2 (.int .i64 0)).set 3 (.int .i64 0)).set 4 (.int .i64 0)).set 5 (.int .i64 0);exact a0v
   ·refine MZ (HO.out.symm.trans HF.out) L.out ?_
    repeat (first|((with_reducible refine BS ?_ ?_);(focus (exact Ak _)))|(with_reducible refine Am ?_))
    first|(with_reducible exact z.out)|(with_reducible exact Am z.out)|(with_reducible exact below_drewN z.out _)
 ·have gE:(me != 0)=true:=by simpa using N
  have HF:Hid (O=me):=by have h:=U.out;rw[Ab N]at h;exact h
  have L:=hid N;have z:=aw;obtain⟨er,Q⟩:∃er:Int,er=me:=⟨_,rfl⟩;subst Q;clear N U D0 D1;exact a0n
end
theorem fS{ls:List Nat}(h:FZ ls=0):Ei (tO ls) (tB ls)=0:=by
 rw[Qz]at h;split at h
 ·rename_i h1;exact absurd h h1
 ·split at h
  ·cases h
  ·split at h
   ·rename_i h1;exact absurd h h1
   ·exact h
def V8(F:List (List Nat))(i:Int):Prop:=0<=i/\i<(F.length:Int)
instance (F:List (List Nat)) (i:Int):Decidable (V8 F i):=by unfold V8;infer_instance
set_option maxHeartbeats 4000000 in
set_option maxRecDepth 100000 in
theorem aC(w:World)(base gb:Nat)(C S T L:List Nat)(X:List Str×List (List Nat))(F:List (List Nat))(K:List Bool)(ai:C.length=F.length)(hT:T.length=C.sum)(hL:L.length=C.sum)(hF:∀f∈F,f.length<=100000/\∀x∈f,x<=255)(hN:C.sum<=20000)(ay:F.length<=20000)(aq:X.1.length<=2000000)(a1:X.2.length<=2000000)(a0:∀l∈X.2,l.length<=2000000)(ht:TabAt w)(a5:BodyAt w base gb C S T L X F K):
 Calls prog 19 #[.pointer (some ⟨gb,0,none⟩)] w (Q9 C T L X F w):=by
 obtain⟨j0,bj,bh,bg,bd⟩:=info_parts VT;have DF:=hid (fun wx (hb:Below w w wx) k (hk:k<F.length)=>Xv wx base gb k C S T L X F K hk ai hT hL hF hN ay (ht.step hb) (a5.step hb));unfold QG at DF;have aw:Hid (∀k,Fq C F k=0->(GG C T L F k).length=C.getD k 0):=fun k=>mS;have a3:Hid (∀k,k<C.length->(C.take (k+1)).sum=(C.take k).sum+C.getD k 0):=fun k=>Qy;have am:Hid (∀k,(C.take k).sum<=20000):=fun k=>AN (LY C k) hN;obtain⟨vc,vs,p,q,vt,vl,vT,vL,vF,va,vals,fv,h0,h1,h2,h3,h4,h5,h6,h7⟩:=a5;have ag:=h6.l;have an:Hid (C.length=F.length):=ai;have HE:Hid (G9 C T L X F=Ns X (Gx C T L F F.length 0 [])):=rfl;have HO:Hid (G9 C T L X F=0->IC C T L X F=(Gx C T L F F.length 0 []).1):=fun h=>Ab h;obtain⟨nf,au⟩:=ii F.length;rw[<-au]at ag ay HE HO an DF;obtain⟨AF,dF,rfl⟩:=bZ ag;have HS:Hid (∀wx,Below w w wx->wx.cell? ⟨gb,8,none⟩=some (.slice AF nf dF)/\wx.cell? ⟨gb,6,none⟩=some vT/\wx.cell? ⟨gb,7,none⟩=some vL):=fun wx hb=>⟨(h0.step hb).cell 8,(h0.step hb).cell 6,(h0.step hb).cell 7⟩;have DC:=hid (fun wx A n c (l:List Rec) (hl:l.length=n) (hn:n<=20000) hr=>QL wx A n c l hl nj hr);have DB:=hid (fun wx A n c (l:List Rec) (hl:l.length=n) (hn:n<=20000) (hk:CI l=0) hr=>OV wx A n c l hl hn (QD hk).1 hr);unfold Kc at DB;have far:∀ {wx:World} {b s n:Nat} {e:TypeId} {v:Value} {xs:List Value},Below w w wx->w.ownsRow b e s v n xs->wx.ownsRow b e s v n xs:=fun hb ho=>eZ ho fun y hy=>hb.block y (Aj ho y hy).2;have DP:=hid (fun wx v1 v2 E p2 (l:List Rec) (hk:CI l=0) (hb:Below w w wx) (h2:IxAt wx p2 v1 v2 E (AZ (l.map oZ)) ((AZ (l.map oZ)).map (Cy (l.map oZ))))=>Tj wx base p2 vT vL v1 v2 vals E X (Ga l) ⟨far hb h5.t,far hb h5.l,fun i v ids hv hi=>far hb (h5.r i v ids hv hi)⟩ h2 aq a1 a0 (QD hk).2.2.1 (QD hk).2.2.2);obtain⟨R,hR⟩:=ii (Gx C T L F nf 0 []);rw[<-hR]at HE HO;have HR:Hid (Gx C T L F nf 0 []=R):=hR.symm;have c8:=(HS.out w (Ae _ _)).1;obtain⟨RL,RE⟩:=R;simp only at HO;clear hR h0 h1 h2 h3 h4 h5 h6 h7 ag au ai hT hL hF hN ht aq a1 a0 far;go_enter func19,ntmps19;go_wp2_with fail;go_loopw [4,16] (fun v i wr=>∃ (k:Nat) (j:List Rec),i= .int .i64 k/\k<=nf/\Hid (j.length=(C.take k).sum)/\Hid (Gx C T L F (nf-k) k j=(RL,RE))/\Hid (wr.ownsRow w 43 4 v j.length (Cs j))/\Hid (Below w w wr)) (fun _ i _=>nf-(intOf i).toNat)
 case atStart=>exact⟨0,[],rfl,nj,rR,HR.out,AI _ _ _ _,Ae _ _⟩
 case round=>
  obtain⟨k,j,rfl,hk,HA,HG,G,HB⟩:=hrel;obtain⟨w0,rfl⟩:=ii wr;clear HR c8;have N:j.length<=20000:=by rw[HA.out];exact am.out k
  by_cases ak:k<nf
  ·have gk:=ic ((k:Int)<nf);have bf:=ic (k<nf);obtain⟨m,hm⟩:∃m,nf-k=m+1:=⟨nf-k-1,nj⟩;have av:nf-(k+1)=m:=nj;have hG:=HG.out;rw[hm,Gx]at hG;have E1:=hid (DF.out w0 HB.out k ak);have ae:=hid (aw.out k);have af:=hid (a3.out k (by rw[an.out];exact ak));generalize Fq C F k=fe at *;generalize GG C T L F k=fo at *;have ba:=hid av;have bp:=am.out (k+1);clear hm av HG;by_cases hb:fe=0
   ·subst hb;have ax:=ae.out iz;have a8:Hid (Gx C T L F m (k+1) (j++fo)=(RL,RE)):=(by rw[Aa rX]at hG;exact hG);have a4:Hid ((j++fo).length=(C.take (k+1)).sum):=(by show _=_;rw[Ag,af.out,HA.out,ax]);have bm:fo.length<=20000:=(by have h:=a4.out;rw[Ag]at h;omega);clear hG ax ae af;go_wp2_with fail;refine E1.out.mono ?_;rintro e w1 ⟨v,rfl,U,z⟩;obtain⟨A1,c1,rfl⟩:=bZ U;obtain⟨A2,c2,rfl⟩:=bZ G.out;have a7:=hid U;have J:Hid (Below w w w1):=HB.out.trans (z.mono HB.out.size);have ar:Hid (w1.ownsRow w 43 4 (.slice A2 j.length c2) j.length (Cs j)):=eZ G.out (fun x hx=>z.block x (Aj G.out x hx).2);have zz:=J.out.size;clear U z E1 G HB;go_wp2_with(at_builtin;refine iZ rfl (.tmp 28) (.tmp 29) 24 rfl w 43 j0 _ 4 48 underlying24 bj bh bg bd rfl ip (.slice A2 j.length c2) j.length (Cs j) nm ar.out A1 fo.length c1 (Cs fo) nm (WG a7.out) (Wv fo) sS nj nj ?_;intro v5 w5 aj bi bn);have a9:Below w w w5:=J.out.grown bi zz (fun y hy=>(Aj ar.out y hy).1);go_roundw
    case measure=>exact jq
    case rel=>go_light;refine⟨k+1,j++fo,iw,nj,a4.out,by rw[ba.out];exact a8.out,?_,a9⟩;rw[Nb,Ag];exact aj
   ·have hR:([],fe)=(RL,RE):=(by rw[Ab hb]at hG;exact hG);simp only[Prod.mk.injEq]at hR;obtain⟨rfl,rfl⟩:=hR;have M:Hid (G9 C T L X F=fe):=(by show _=_;rw[HE.out];exact Ab hb);have g1:(fe != 0)=true:=(by simpa using hb);have bb:=hid hb;clear hG hb HE HO ae af;go_wp2_with fail;refine E1.out.mono ?_;rintro e w1 ⟨v,rfl,U,z⟩;have J:Hid (Below w w w1):=HB.out.trans (z.mono HB.out.size);clear U z E1;go_wp2_with fail;go_ret2;exact Q6 M.out bb.out J.out
  ·obtain rfl:k=nf:=by omega
   have gk:=ig ((k:Int)<k);have bf:=ig (k<k);have hG:=HG.out;rw[G0,Gx]at hG;simp only[Prod.mk.injEq]at hG;obtain⟨rfl,rfl⟩:=hG;obtain⟨A2,c2,rfl⟩:=bZ G.out;have ac:=Qu G.out;have E1:=hid (DC.out w0 A2 j.length c2 j rfl N ac);have he:=HE.out;unfold Ns at he;simp only at he;rw[Aa rX]at he;clear HG HE DF DC aw a3 am an HA ak ac;by_cases h1:CI j=0
   ·rw[Aa (by simp[h1])]at he;rw[h1]at E1;have E2:=hid (fun wx hr=>DB.out wx A2 j.length c2 j rfl N h1 hr);have E3:=hid (fun wx v1 v2 E p2 hb h=>DP.out wx v1 v2 E p2 j h1 hb h);have ah:Hid (∀wx,Below w0 w0 wx->Row wx wx A2 j.length 4 (BW j)):=fun wx hb=>Qu (eZ G.out (fun x hx=>hb.block x (Aj G.out x hx).2));have Z:Hid (∀wx,Below w0 w0 wx->Below w w wx):=fun wx hb=>HB.out.trans (hb.mono HB.out.size);obtain⟨al,Y⟩:=ii j.length;rw[<-Y]at E1 E2 ah N;have Q:=G.out;rw[<-Y]at Q;have aa:=hid Q;have be:=hid Y;have HE:=hid he;rw[<-Y];clear he h1 DB DP G Q Y;go_wp2_with fail;refine E1.out.mono ?_;rintro e w1 ⟨rfl,z⟩;have J:=hid z;clear z E1;go_upto_region 15 with fail;go_cut [44] (fun s wx=>s= .bool (!eqX X (Ga j))/\Hid (Below w0 w0 wx))
    case first=>
     have bl:Hid (∀wx,Below w0 w0 wx->wx.cell? ⟨gb,6,none⟩=some vT/\wx.cell? ⟨gb,7,none⟩=some vL):=fun wx hb=>(HS.out wx (Z.out wx hb)).2;have b1:=J.out;clear HS HE;go_region_held3 (fun wx=>wx.cell? ⟨gb,6,none⟩=some vT/\wx.cell? ⟨gb,7,none⟩=some vL) (exact bl.out _ sT) (first|(go_at_call 52;(with_reducible refine(E2.out _ (ah.out _ sT)).mono ?_);rintro e wB ⟨v1,v2,E,rfl,ab,bc⟩;have BB:Below w0 w0 wB:=cZ bc sT)|(go_at_call 65;(with_reducible refine(E3.out _ _ _ _ _ (Z.out _ sT) (by first|exact ab|exact ab.step sT)).mono ?_);rintro e wG ⟨rfl,bk⟩;have BG:Below w0 w0 wG:=cZ bk sT))
     all_goals
      go_wp2_with fail;go_meet
      case rel=>exact⟨rfl,hid BG⟩
    case rest=>
     obtain⟨rfl,az⟩:=hcut;have a6:=hid (Z.out _ az.out);have he:=HE.out;clear E2 E3 ah Z J HS HE;cases hx:eqX X (Ga j)
     ·rw[Aa sD]at he;have M:=hid he;clear hx he;go_wp2_with fail;go_ret2;exact Q6 M.out ip a6.out
     ·rw[Ab hx]at he;have M:=hid he;clear hx he;go_wp2_with fail;go_ret2;refine⟨.slice A2 al c2,by rw[M.out];rfl,?_,a6.out⟩;rw[HO.out M.out,<-be.out];exact eZ aa.out (fun x hx=>az.out.block x (Aj aa.out x hx).2)
   ·rw[Ab h1]at he;have h6:=Nk h1;rw[h6]at E1;have M:=hid he;clear he h1 DB DP G h6;go_wp2_with fail;refine E1.out.mono ?_;rintro e w1 ⟨rfl,z⟩;have J:Hid (Below w w w1):=HB.out.trans (z.mono HB.out.size);clear z E1;go_wp2_with fail;go_ret2;exact Q6 M.out ip J.out
variable{ls:List Nat}
open Go.RowKit
theorem heap_drew(w:World)(b:Nat):w.drew.heap[b]? =w.heap[b]? :=rfl
def Gq(ls:List Nat):Int:=if FZ ls≠0 then FZ ls else G9 (BM (zZ (tB ls))) (By (oN (tB ls)) (AJ (Cr (tB ls)))).1 (By (oN (tB ls)) (AJ (Cr (tB ls)))).2.1 (Ah5 (tO ls).bucket.toNat (oN (tB ls)) (AJ (Fu (tB ls)))).1 (CA (Cc (zZ (tB ls))) ((tB ls).take (Dd (tB ls))))
def Ji(ls:List Nat):List Rec:=if Gq ls=0 then IC (BM (zZ (tB ls))) (By (oN (tB ls)) (AJ (Cr (tB ls)))).1 (By (oN (tB ls)) (AJ (Cr (tB ls)))).2.1 (Ah5 (tO ls).bucket.toNat (oN (tB ls)) (AJ (Fu (tB ls)))).1 (CA (Cc (zZ (tB ls))) ((tB ls).take (Dd (tB ls))))else []
def unpN(ls:List Nat):Nat:=if Gq ls=0 then(BM (zZ (tB ls))).length else 0
def unpV(ls:List Nat):Value:=if Gq ls=0 then(tO ls).val else .agg #[ij,false,ij,ij,ij,ij]
def MV(ls:List Nat)(w:World)(e:Ending)(w':World):Prop:=
 ∃v,e= .returned (.tuple #[unpV ls,v, .int .i64 (unpN ls:Nat), .int .i64 (Gq ls)])/\w'.ownsRow w 43 4 v (Ji ls).length (Cs (Ji ls))/\Below w w w'
theorem U3{w w':World}{er:Int}(hE:Gq ls=er)(h:er≠0)(hb:Below w w w'):MV ls w (.returned (.tuple #[.agg #[ij,false,ij,ij,ij,ij],(),ij,er])) w':=by
 subst hE;refine⟨.slice none 0 0,?_,?_,hb⟩
 ·rw[show unpV ls= .agg #[ij,false,ij,ij,ij,ij] from Aa h,show unpN ls=0 from Aa h];rfl
 ·rw[show Ji ls= [] from Aa h];exact AI _ _ _ _
theorem a0t{p:Prop}(h:p:=by
  have G:=HZ.out;obtain⟨v0,v1,v2,v3,v4,v5⟩:=G.six;obtain⟨az,ba,a4,a7,a0,a9⟩:=G.sixf;have a1:=hid G;clear G;go_wp2_with fail;refine Bx (v:= .tuple #[.agg #[ij,false,ij,ij,ij,ij],(),ij, .int .i64 er]) ?_ rfl ?_
  ·have i:=((((((a1.out.set 0 (.int .i64 0)).set 1 (.bool false)).set 2 (.int .i64 0)).set 3 (.int .i64 0)).set 4 (.int .i64 0)).set 5 (.int .i64 0));have e0:=i.cell 0;have e1:=i.cell 1;have e2:=i.cell 2;have e3:=i.cell 3;have e4:=i.cell 4;have e5:=i.cell 5;simp at e0 e1 e2 e3 e4 e5;simp[results,results38,go_sem,e0,e1,e2,e3,e4,e5]
  ·refine U3 HF.out au.out ?_
   repeat (first|((with_reducible refine BS ?_ ?_);(focus (exact Ak _)))|(with_reducible refine Am ?_))
   first|(with_reducible exact J.out)|(with_reducible exact Am J.out)|(with_reducible exact below_drewN J.out _)):p:=h
theorem ZS(w:World)(A:Option Addr)(n c:Nat)(ls:List Nat)(hn:ls.length=n)(cj:n<=100000)(hc:n<=c)(h8:∀x∈ls,x<=255)(ak:A=none->n=0/\c=0)(ht:TabAt w)(ha:Row w w A n 1 (jZ .u8 ls)):
 Calls prog 38 #[.slice A n c] w (MV ls w):=by
 have D1:=hid (fun wx (hb:Below w w wx)=>bA wx A n c ls hn cj hc h8 ak (ht.step hb) ((ha.below hb).mono hb.size));unfold Qn at D1;have ai:∀x∈tB ls,x<=255:=fun x hx=>h8 x (Bz hx);have bg:(tB ls).length<=100000:=by unfold tB;rw[AQ];omega
 have a8:=hid (fun h=>kC (o:=tO ls) ai bg h);have ax:Hid (oN (tB ls)=(BM (zZ (tB ls))).sum):=rfl;have HX:=hid (X6 (size:=(tO ls).bucket.toNat) (bound:=oN (tB ls)) (ls:=AJ (Fu (tB ls))) (JM (fun x hx=>by unfold Fu at hx;exact ai x (BX (Bz hx)))));have a3:Hid (FZ ls=0->Ei (tO ls) (tB ls)=0):=fS;have af:Hid (Gq ls=if FZ ls≠0 then FZ ls else G9 (BM (zZ (tB ls))) (By (oN (tB ls)) (AJ (Cr (tB ls)))).1 (By (oN (tB ls)) (AJ (Cr (tB ls)))).2.1 (Ah5 (tO ls).bucket.toNat (oN (tB ls)) (AJ (Fu (tB ls)))).1 (CA (Cc (zZ (tB ls))) ((tB ls).take (Dd (tB ls))))):=rfl;have ae:Hid (Gq ls=0->Ji ls=IC (BM (zZ (tB ls))) (By (oN (tB ls)) (AJ (Cr (tB ls)))).1 (By (oN (tB ls)) (AJ (Cr (tB ls)))).2.1 (Ah5 (tO ls).bucket.toNat (oN (tB ls)) (AJ (Fu (tB ls)))).1 (CA (Cc (zZ (tB ls))) ((tB ls).take (Dd (tB ls))))/\unpN ls=(BM (zZ (tB ls))).length/\unpV ls=(tO ls).val):=fun h=>⟨Ab h,Ab h,Ab h⟩;have HT:=hid ht;have bi:Hid (Ei (tO ls) (tB ls)=0->(Cc (zZ (tB ls))).length=(BM (zZ (tB ls))).length):=fun h=>(Wq ai h).2.2.1;generalize Ah5 (tO ls).bucket.toNat (oN (tB ls)) (AJ (Fu (tB ls)))=X at *;rw[show(tO ls).val= .agg #[.int .i64 (tS ls:Nat), .bool (decide (tP ls=1)), .int .i64 (tK ls:Nat),ij,ij,ij] from rfl]at D1 ae;generalize tS ls=S at *;generalize decide (tP ls=1)=pb at *;generalize tK ls=K at *;generalize Ei (tO ls) (tB ls)=OE at *;generalize FZ ls=E at *;generalize (By (oN (tB ls)) (AJ (Cr (tB ls)))).1=T at *;generalize (By (oN (tB ls)) (AJ (Cr (tB ls)))).2.1=L at *;generalize BM (zZ (tB ls))=C at *;generalize CA (Cc (zZ (tB ls))) ((tB ls).take (Dd (tB ls)))=F at *;generalize Cc (zZ (tB ls))=SZ at *;generalize oN (tB ls)=N at *;clear ha ak h8 hn ht ai bg;go_enter func38,ntmps38;go_wp2_with fail;have ar:Blk (w.alloc (.cells #[ij,false,ij,ij,ij,ij] 23)) w 23 #[ij,false,ij,ij,ij,ij]:=Blk.made _ _ _;have ay:Below w w (w.alloc (.cells #[ij,false,ij,ij,ij,ij] 23)):=aZ (Ae _ _);generalize w.alloc (.cells #[ij,false,ij,ij,ij,ij] 23)=w1 at *;have bb:=hid ar;have b0:=hid ay;have D1:=hid (D1.out w1 ay);have cp:=ar.lt;clear ay ar;refine D1.out.mono ?_;rintro e w2 ⟨aa,Z,am⟩;have Y:Hid (Below w w w2):=b0.out.trans (aa.mono b0.out.size);have al:=hid (bb.out.step aa);have cm:=aa.size;clear D1;by_cases hE:E=0
 ·subst hE;obtain⟨gb,rfl,bN⟩:=am ja;obtain⟨k1,k2,k3,k4,k5,k6⟩:=a8.out (a3.out ja);obtain⟨x1,x2,x3⟩:=HX.out;have bm:=ax.out;have bc:X.1.1.length<=2000000:=by omega
  have bq:X.1.2.length<=2000000:=nj
  have bk:∀l∈X.1.2,l.length<=2000000:=fun l hl=>by have:=x3 l hl;omega
  have a6:=af.out;rw[Aa (show ¬((0:Int)≠0) from fun h=>h rfl)]at a6;have HU:=hid a6;clear Z am aa a6 af;go_wp2_with fail;have bS:Blk (w2.alloc (.cells #[.int .i64 (S:Nat),pb, .int .i64 (K:Nat),ij,ij,ij] 23)) w2 23 #[.int .i64 (S:Nat),pb, .int .i64 (K:Nat),ij,ij,ij]:=Blk.made _ _ _;have M:Below w2 w2 (w2.alloc (.cells #[.int .i64 (S:Nat),pb, .int .i64 (K:Nat),ij,ij,ij] 23)):=aZ (Ae _ _);generalize w2.alloc (.cells #[.int .i64 (S:Nat),pb, .int .i64 (K:Nat),ij,ij,ij] 23)=w3 at *;have ag:Hid (Below w w w3):=Y.out.trans (M.mono Y.out.size);have ac:=hid (bN.step M);have bl:=hid bS;have bO:=hid (al.out.step M);have cq:w.heap.size<w2.heap.size:=nj
  have DL:=hid (aC w3 w1 gb C SZ T L X.1 F (List.replicate SZ.length false) k1 k2 k3 k4 k5 k6 bc bq bk (HT.out.step ag.out) ac.out);have ce:Hid (C.length<=20000):=rK
  unfold Q9 at DL;generalize G9 C T L X.1 F=LE at *;generalize IC C T L X.1 F=LO at *;clear M bS bN k1 k2 k3 k4 k5 k6 x1 x2 x3 bm bc bq bk a8 ax HX a3 HT bi;generalize w2.heap.size=xb at *;refine DL.out.mono ?_;rintro e w6 ⟨v6,rfl,ah,U⟩;obtain⟨nl,aq⟩:=ii LO.length;rw[<-aq]at ah;have b7:=hid aq;obtain⟨A6,c6,rfl⟩:=bZ ah;have bn:=hid ah;have J:Hid (Below w w w6):=ag.out.trans (U.mono ag.out.size);have HZ:=hid (bO.out.step U);have a5:=hid (bl.out.step U);have aj:=hid (ac.out.step U);have co:=U.size;clear ah U DL aq bO bl ac bb al;by_cases hL:LE=0
  ·subst hL;obtain⟨u1,u2,u3⟩:=ae.out HU.out;have be:=aj.out;obtain⟨vc,vs,p,q,vt,vl,vT,vL,vF,va,vals,fv,h0,h1,h2,h3,h4,h5,h6,h7⟩:=be;obtain⟨kc,av⟩:=ii C.length;rw[<-av]at h1;have b9:=hid av;obtain⟨Ac,cc,rfl⟩:=bZ h1;have CB:Hid (∀wx:World,wx.heap[gb]? =w6.heap[gb]? ->(∀y,(Value.slice Ac kc cc).ownBlock=some y->wx.heap[y]? =w6.heap[y]?)->Calls prog 15 #[.pointer (some ⟨gb,0,none⟩)] wx fun e w'=>∃v,e= .returned v/\w'.ownsRow wx 3 1 v kc (dZ .i64 C)/\Below wx wx w'):=fun wx hg hy=>jG wx gb w1 kc cc Ac (dZ .i64 C) (Blk.cell (hg.trans h0:Blk wx gb _ _) 0) (by have:=ce.out;omega) (eZ h1 hy) (Ce _ _);have bt:gb≠w.heap.size:=Blk.apart h0 HZ.out ip;have bu:∀y,(Value.slice Ac kc cc).ownBlock=some y->y≠w.heap.size:=fun y hy=>by have:=(Aj h1 y hy).1;omega
   have cg:=hid bt;have b3:=hid bu;have ca:=hid u1;have cf:=hid u2;have bf:=hid u3;have an:=HZ.out;obtain⟨v0,v1,v2,v3,v4,v5⟩:=an.six;obtain⟨az,ba,a4,a7,a0,a9⟩:=an.sixf;have bC:=a5.out;obtain⟨x0,x1,x2,x3,x4,x5⟩:=bC.six;have bx:¬xb=w.heap.size:=nj;have cl:¬w.heap.size=xb:=nj;have bj:=hid bx;have b8:Hid (w6.heap[xb]? =some (.cells #[.int .i64 (S:Nat),pb, .int .i64 (K:Nat),ij,ij,ij] 23)):=a5.out;have b4:Hid (w6.heap[w.heap.size]? =some (.cells #[ij,false,ij,ij,ij,ij] 23)):=HZ.out;have b6:Hid (((((((w6.setCell ⟨w,0,none⟩ (.int .i64 (S:Nat))).setCell ⟨w,1,none⟩ (.bool pb)).setCell ⟨w,2,none⟩ (.int .i64 (K:Nat))).setCell ⟨w,3,none⟩ (.int .i64 0)).setCell ⟨w,4,none⟩ (.int .i64 0)).setCell ⟨w,5,none⟩ (.int .i64 0)).heap[w.heap.size]? =some (.cells #[.int .i64 (S:Nat),pb, .int .i64 (K:Nat),ij,ij,ij] 23)):=(by simpa using ((((((HZ.out.set 0 (.int .i64 (S:Nat))).set 1 (.bool pb)).set 2 (.int .i64 (K:Nat))).set 3 (.int .i64 0)).set 4 (.int .i64 0)).set 5 (.int .i64 0)):Blk ((((((w6.setCell ⟨w,0,none⟩ (.int .i64 (S:Nat))).setCell ⟨w,1,none⟩ (.bool pb)).setCell ⟨w,2,none⟩ (.int .i64 (K:Nat))).setCell ⟨w,3,none⟩ (.int .i64 0)).setCell ⟨w,4,none⟩ (.int .i64 0)).setCell ⟨w,5,none⟩ (.int .i64 0)) w 23 #[.int .i64 (S:Nat),pb, .int .i64 (K:Nat),ij,ij,ij]);have bp:Hid (((((((w6.drew.setCell ⟨w,0,none⟩ (.int .i64 (S:Nat))).setCell ⟨w,1,none⟩ (.bool pb)).setCell ⟨w,2,none⟩ (.int .i64 (K:Nat))).setCell ⟨w,3,none⟩ (.int .i64 0)).setCell ⟨w,4,none⟩ (.int .i64 0)).setCell ⟨w,5,none⟩ (.int .i64 0)).heap[w.heap.size]? =some (.cells #[.int .i64 (S:Nat),pb, .int .i64 (K:Nat),ij,ij,ij] 23)):=(by simpa using ((((((HZ.out.drew.set 0 (.int .i64 (S:Nat))).set 1 (.bool pb)).set 2 (.int .i64 (K:Nat))).set 3 (.int .i64 0)).set 4 (.int .i64 0)).set 5 (.int .i64 0)):Blk ((((((w6.drew.setCell ⟨w,0,none⟩ (.int .i64 (S:Nat))).setCell ⟨w,1,none⟩ (.bool pb)).setCell ⟨w,2,none⟩ (.int .i64 (K:Nat))).setCell ⟨w,3,none⟩ (.int .i64 0)).setCell ⟨w,4,none⟩ (.int .i64 0)).setCell ⟨w,5,none⟩ (.int .i64 0)) w 23 #[.int .i64 (S:Nat),pb, .int .i64 (K:Nat),ij,ij,ij]);have KS:Hid (∀wx:World,wx.cell? ⟨xb,0,none⟩=some (.int .i64 (S:Nat))/\wx.cell? ⟨xb,1,none⟩=some (.bool pb)/\wx.cell? ⟨xb,2,none⟩=some (.int .i64 (K:Nat))/\wx.cell? ⟨xb,3,none⟩=some (.int .i64 0)/\wx.cell? ⟨xb,4,none⟩=some (.int .i64 0)/\wx.cell? ⟨xb,5,none⟩=some (.int .i64 0)->(((((((wx.setCell ⟨w,0,none⟩ (.int .i64 (S:Nat))).setCell ⟨w,1,none⟩ (.bool pb)).setCell ⟨w,2,none⟩ (.int .i64 (K:Nat))).setCell ⟨w,3,none⟩ (.int .i64 0)).setCell ⟨w,4,none⟩ (.int .i64 0)).setCell ⟨w,5,none⟩ (.int .i64 0)).cell? ⟨xb,0,none⟩=some (.int .i64 (S:Nat))/\((((((wx.setCell ⟨w,0,none⟩ (.int .i64 (S:Nat))).setCell ⟨w,1,none⟩ (.bool pb)).setCell ⟨w,2,none⟩ (.int .i64 (K:Nat))).setCell ⟨w,3,none⟩ (.int .i64 0)).setCell ⟨w,4,none⟩ (.int .i64 0)).setCell ⟨w,5,none⟩ (.int .i64 0)).cell? ⟨xb,1,none⟩=some (.bool pb)/\((((((wx.setCell ⟨w,0,none⟩ (.int .i64 (S:Nat))).setCell ⟨w,1,none⟩ (.bool pb)).setCell ⟨w,2,none⟩ (.int .i64 (K:Nat))).setCell ⟨w,3,none⟩ (.int .i64 0)).setCell ⟨w,4,none⟩ (.int .i64 0)).setCell ⟨w,5,none⟩ (.int .i64 0)).cell? ⟨xb,2,none⟩=some (.int .i64 (K:Nat))/\((((((wx.setCell ⟨w,0,none⟩ (.int .i64 (S:Nat))).setCell ⟨w,1,none⟩ (.bool pb)).setCell ⟨w,2,none⟩ (.int .i64 (K:Nat))).setCell ⟨w,3,none⟩ (.int .i64 0)).setCell ⟨w,4,none⟩ (.int .i64 0)).setCell ⟨w,5,none⟩ (.int .i64 0)).cell? ⟨xb,3,none⟩=some (.int .i64 0)/\((((((wx.setCell ⟨w,0,none⟩ (.int .i64 (S:Nat))).setCell ⟨w,1,none⟩ (.bool pb)).setCell ⟨w,2,none⟩ (.int .i64 (K:Nat))).setCell ⟨w,3,none⟩ (.int .i64 0)).setCell ⟨w,4,none⟩ (.int .i64 0)).setCell ⟨w,5,none⟩ (.int .i64 0)).cell? ⟨xb,4,none⟩=some (.int .i64 0)/\((((((wx.setCell ⟨w,0,none⟩ (.int .i64 (S:Nat))).setCell ⟨w,1,none⟩ (.bool pb)).setCell ⟨w,2,none⟩ (.int .i64 (K:Nat))).setCell ⟨w,3,none⟩ (.int .i64 0)).setCell ⟨w,4,none⟩ (.int .i64 0)).setCell ⟨w,5,none⟩ (.int .i64 0)).cell? ⟨xb,5,none⟩=some (.int .i64 0))):=fun wx h=>by obtain⟨h0,h1,h2,h3,h4,h5⟩:=h;have far:∀ {k j:Nat} {wy:World} {u v:Value},wy.cell? ⟨xb,k,none⟩=some v->(wy.setCell ⟨w.heap.size,j,none⟩ u).cell? ⟨xb,k,none⟩=some v:=fun h=>(World.cell?_setCell_other _ _ _ _ fun e=>bj.out (Aw Addr.block e).symm).trans h;exact⟨far (far (far (far (far (far h0))))),far (far (far (far (far (far h1))))),far (far (far (far (far (far h2))))),far (far (far (far (far (far h3))))),far (far (far (far (far (far h4))))),far (far (far (far (far (far h5)))))⟩
   clear h0 h1 h2 h3 h4 h5 h6 h7 bt bu u1 u2 u3 av ae an bC aj;go_upto_region 7 with fail;go_region_held3 (fun wx=>wx.cell? ⟨xb,0,none⟩=some (.int .i64 (S:Nat))/\wx.cell? ⟨xb,1,none⟩=some (.bool pb)/\wx.cell? ⟨xb,2,none⟩=some (.int .i64 (K:Nat))/\wx.cell? ⟨xb,3,none⟩=some (.int .i64 0)/\wx.cell? ⟨xb,4,none⟩=some (.int .i64 0)/\wx.cell? ⟨xb,5,none⟩=some (.int .i64 0)) (first|(with_reducible exact KS.out _ ⟨x0,x1,x2,x3,x4,x5⟩)|exact⟨x0,x1,x2,x3,x4,x5⟩) (first|(go_at_call 15;(with_reducible refine(CB.out _ ?_ ?_).mono ?_);(focus (repeat (with_reducible first|exact rfl|refine(heap_drew _ _).trans ?_ |refine(AW _ _ _ _ cg.out).trans ?_)));(focus (intro y hy;repeat (with_reducible first|exact rfl|refine(heap_drew _ _).trans ?_ |refine(AW _ _ _ _ (b3.out y hy)).trans ?_)));rintro e wB ⟨vB,rfl,bd,Q⟩;obtain⟨AB,cB,rfl⟩:=bZ bd;have b1:Blk wB xb 23 #[.int .i64 (S:Nat),pb, .int .i64 (K:Nat),ij,ij,ij]:=(Q.block xb (by have:=a5.out.lt;simp;omega)).trans (by repeat (with_reducible first|exact b8.out|refine(heap_drew _ _).trans ?_ |refine(AW _ _ _ _ bj.out).trans ?_));(first|have ab:Blk wB w 23 #[ij,false,ij,ij,ij,ij]:=(Q.block _ (by have:=HZ.out.lt;simp;omega)).trans (by repeat (with_reducible first|exact b4.out|refine(heap_drew _ _).trans ?_))|have ab:Blk wB w 23 #[.int .i64 (S:Nat),pb, .int .i64 (K:Nat),ij,ij,ij]:=(Q.block _ (by have:=HZ.out.lt;simp;omega)).trans (by repeat (with_reducible first|exact b6.out|exact bp.out|refine(heap_drew _ _).trans ?_)));obtain⟨x0,x1,x2,x3,x4,x5⟩:=b1.six;obtain⟨v0,v1,v2,v3,v4,v5⟩:=ab.six;obtain⟨az,ba,a4,a7,a0,a9⟩:=ab.sixf))
   all_goals
    have h6:wB.ownsRow w3 43 4 (.slice A6 nl c6) nl (Cs LO):=eZ bn.out (fun y hy=>Q.block y (Aj bn.out y hy).2);have bh:=gZ h6 ab ip;have H6:=hid h6;have z:=hid bh;have b5:=hid ab;have ci:Hid (Below w w wB):=cZ Q (Am J.out);clear bd h6 bh Q b1;go_wp2_with fail;refine Bx (v:= .tuple #[.agg #[.int .i64 (S:Nat),pb, .int .i64 (K:Nat),ij,ij,ij], .slice A6 nl c6, .int .i64 (kc:Nat),ij]) ?_ rfl ?_
    ·have i:=((((((b5.out.set 0 (.int .i64 (S:Nat))).set 1 (.bool pb)).set 2 (.int .i64 (K:Nat))).set 3 (.int .i64 0)).set 4 (.int .i64 0)).set 5 (.int .i64 0));have e0:=i.cell 0;have e1:=i.cell 1;have e2:=i.cell 2;have e3:=i.cell 3;have e4:=i.cell 4;have e5:=i.cell 5;simp at e0 e1 e2 e3 e4 e5;simp[results,results38,go_sem,e0,e1,e2,e3,e4,e5]
    ·refine⟨.slice A6 nl c6,?_,?_,?_⟩
     ·rw[bf.out,cf.out,<-b9.out,HU.out]
     ·rw[ca.out,<-b7.out];exact kZ (BK (BK (BK (BK (BK (BK H6.out z.out _) z.out _) z.out _) z.out _) z.out _) z.out _) ag.out.size
     ·repeat (first|((with_reducible refine BS ?_ ?_);(focus (exact Ak _)))|(with_reducible refine Am ?_))
      exact ci.out
  ·have hF:Gq ls=LE:=HU.out;have HF:=hid hF;have au:=hid hL;have gE:(LE != 0)=true:=(by simpa using hL);obtain⟨er,aw⟩:∃er:Int,er=LE:=⟨_,rfl⟩;subst aw;clear hF hL ae HU;exact a0t
 ·have cd:=Z hE;subst cd;have gE:(E != 0)=true:=by simpa using hE
  have au:=hid hE;have HF:Hid (Gq ls=E):=by show _=_;rw[af.out];exact Ab hE
  have J:=Y;have M:Below w2 w2 (w2.alloc (.cells #[ij,false,ij,ij,ij,ij] 23)):=aZ (Ae _ _);have HZ:=hid (al.out.step M);have J:Hid (Below w w (w2.alloc (.cells #[ij,false,ij,ij,ij,ij] 23))):=Y.out.trans (M.mono Y.out.size);obtain⟨er,aw⟩:∃er:Int,er=E:=⟨_,rfl⟩;subst aw;clear Z am hE a8 ax HX a3 af ae HT bi aa M;exact a0t
theorem Qg{o:Opt}(h:CT o=0):o=⟨o.block,o.plain,o.bucket,0,0,0⟩/\16<=o.block/\o.block<=32768/\1<=o.bucket/\o.bucket<=64/\Dj o=0:=by
 have h0:=h;unfold CT at h;split at h
 ·rename_i hc;obtain⟨⟨a,b⟩,⟨c,d⟩,e,f,g⟩:=hc;refine⟨?_,a,b,c,d,?_⟩
  ·obtain⟨x1,x2,x3,x4,x5,x6⟩:=o;simp only at e f g;subst e f g;rfl
  ·unfold Dj CT Opt.body;exact Ab ⟨⟨a,b⟩,⟨c,d⟩,rfl,rfl,rfl⟩
 ·cases h
theorem Zs{o:Opt}{B:List Nat}(ho:CT o=0)(hl:ls=Eu o.block.toNat (Dq o.plain) o.bucket.toNat++B):EH ls=0/\FU ls=2/\tO ls=o/\EX ls=0/\tB ls=B:=by
 obtain⟨oe,b1,b2,b3,b4,_⟩:=Qg ho;have hf:Dq o.plain<=1:=sQ
 obtain⟨H,hH⟩:=ii (Gs o.block.toNat (Dq o.plain) o.bucket.toNat);have hC:Eu o.block.toNat (Dq o.plain) o.bucket.toNat=H++Bv (Bg H):=by rw[hH];rfl
 have Q:H= [70,73,82,75,2]++(fZ o.block.toNat++([Dq o.plain]++fZ o.bucket.toNat)):=by rw[hH];unfold Gs;rw[Cg];rfl
 have q0:ls.drop 0= [70,73,82,75,2]++(fZ o.block.toNat++(Dq o.plain :: (fZ o.bucket.toNat++(Bv (Bg H)++B)))):=by rw[hl,hC,Q];simp[List.append_assoc]
 have h:ls=70 :: 73 :: 82 :: 75 :: 2 :: (fZ o.block.toNat++(Dq o.plain :: (fZ o.bucket.toNat++(Bv (Bg H)++B)))):=q0;obtain⟨m1,m2⟩:=WW (bs:=ls) qz qy qz;have mv:FU ls=2:=by rw[m2,h];rfl
 obtain⟨_,t2,t3⟩:=QP q0;have q1:=CW q0;obtain⟨i1,i2,i3⟩:=GY (most:=32768) q1 nj nj;have q2:=CW q1;obtain⟨c1,c2,c3,q3⟩:=We q2;obtain⟨j1,j2,j3⟩:=GY (most:=64) q3 nj nj;have q4:=CW q3;obtain⟨_,u2,u3⟩:=QP q4;have q5:=CW q4;have M:(Bv (Bg H)).length=4:=rfl;have h5:([70,73,82,75,2]:List Nat).length=5:=rfl;rw[h5]at t2 t3 q1 i1 i2 i3 q2 c1 c2 c3 q3 j1 j2 j3 q4 u2 u3 q5;rw[M]at u2 u3 q5;have E:tA0 ls=0+5:=t2;have G:tE0 ls=0:=t3;have eS:tS ls=o.block.toNat:=by unfold tS;rw[E,G,i1]
 have J:tA1 ls=0+5+(fZ o.block.toNat).length:=by unfold tA1;rw[E,G,i2]
 have j:tE1 ls=0:=by unfold tE1;rw[E,G,i3]
 have eP:tP ls=Dq o.plain:=by unfold tP;rw[J,j,c1]
 have y:tA2 ls=0+5+(fZ o.block.toNat).length+1:=by unfold tA2;rw[J,j,c2]
 have Y:tE2 ls=0:=by unfold tE2;rw[J,j,c3]
 have z:tF2 ls=0:=by unfold tF2;rw[eP,Y,Aa nj]
 have eK:tK ls=o.bucket.toNat:=by unfold tK;rw[y,z,j1]
 have L:tA3 ls=0+5+(fZ o.block.toNat).length+1+(fZ o.bucket.toNat).length:=by unfold tA3;rw[y,z,j2]
 have N:tE3 ls=0:=by unfold tE3;rw[y,z,j3]
 have U:tA4 ls=0+5+(fZ o.block.toNat).length+1+(fZ o.bucket.toNat).length+4:=by unfold tA4;rw[L,N,u2]
 have Z:tE4 ls=0:=by unfold tE4;rw[L,N,u3]
 have eO:tO ls=o:=by
  unfold tO;have e1:((o.block.toNat:Nat):Int)=o.block:=nj
  have e2:decide (Dq o.plain=1)=o.plain:=by unfold Dq;cases o.plain<;>rfl
  have e3:((o.bucket.toNat:Nat):Int)=o.bucket:=nj
  rw[eS,eP,eK,e1,e2,e3];exact oe.symm
 have i:tA4 ls=(H++Bv (Bg H)).length:=by rw[U,Ag,M,Q];simp only[List.length_append,List.length_cons,List.length_nil];omega
 have hT:ls.take (tA4 ls)=H++Bv (Bg H):=by rw[i,hl,hC,List.take_left]
 refine⟨m1,mv,eO,?_,by unfold tB;rw[i,hl,hC,List.drop_left]⟩;unfold EX;rw[Z,hT,(No H).1,Aa rX,Aa rX,eO,ho]
theorem Y8{o:Opt}{l:List Rec}(ho:CT o=0)(h:Small o l):Gq (CX o l)=0/\unpV (CX o l)=o.val/\Ji (CX o l)=l/\EV o l=0/\(CX o l).length<=100000/\(∀x∈CX o l,x<=255):=by
 obtain⟨oe,b1,b2,b3,b4,oB⟩:=Qg ho;have hm:Fc o l=0:=by unfold Fc;rw[Aa (by simp[oB]),Aa (by simp[h.ck])]
 have hE:EV o l=0:=by unfold EV;rw[Aa (by simp[ho]),hm]
 have i:GH o l=CY o l:=Ab hm;have hR:CX o l=Eu o.block.toNat (Dq o.plain) o.bucket.toNat++CY o l:=by unfold CX;rw[Ab hE,i]
 obtain⟨ls,j⟩:=ii (CX o l);rw[<-j]at hR ⊢;obtain⟨m1,m2,eO,eH,eB⟩:=Zs ho hR;obtain⟨p0,p1,p2,p3,p4,p5,p6⟩:=lI oB h.ck h.ok h.b (by have:=h.t;omega) h.x (by have:=h.n;omega);obtain⟨g1,g2⟩:=Ak7 o.plain (LZ o l) h.ok h.ck h.b;have e2:FZ ls=0:=by rw[Qz,m1,m2,eH,eB,eO,p0];simp
 have eE:Gq ls=0:=by unfold Gq;rw[e2,Aa rX,eB,eO,p1,p3,p4,p5,p6];exact g1
 refine⟨eE,by unfold unpV;rw[Ab eE,eO],?_,hE,?_,?_⟩
 ·unfold Ji;rw[Ab eE,eB,eO,p1,p3,p4,p5,p6];exact g2
 ·have:=Oj (S:=o.block.toNat) (K:=o.bucket.toNat) (fl:=Dq o.plain) nj nj;have:=h.m;rw[hR,Ag];omega
 ·rw[hR];intro x hx;rcases BJ.1 hx with hx|hx
  ·exact QI sQ x hx
  ·exact cI h.ok x hx
theorem YK{wx:World}{A:Option Addr}{n c base:Nat}(ho:wx.ownsRow base 5 1 (.slice A n c) n (dZ .u8 ls))(hn:ls.length=n):n<=c/\(A=none->n=0/\c=0)/\Row wx wx A n 1 (jZ .u8 ls):=by subst hn;exact⟨(Et ho).2,fun e=>by subst e;exact JT ho rfl,qV ho rfl⟩
theorem gG(w:World)(o:Opt)(A:Option Addr)(n c:Nat)(l:List Rec)(hn:l.length=n)(hN:n<=9223372036854775807)(hc:n<=c)(z:∀r∈l,BR r)(ht:TabAt w)(ha:Row w w A n 4 (BW l)):
 Calls prog 9 #[o.val, .slice A n c] w fun e w'=>e= .returned (.bool true)/\Below w w w':=by
 have D0:=hid (fun wx (hx:Below w w wx)=>gX wx (ht.step hx));have D2:=hid (fun wx (hx:Below w w wx)=>XA wx A n c l 60 4000 nj hn hN ((ha.below hx).mono hx.size));have D3:=hid (fun wx (hx:Below w w wx) (hcd:CI l=0->Cd o l n)=>TZ wx o A n c l hn hN hc z hcd (ht.step hx) ((ha.below hx).mono hx.size))
 have N:Hid ((n:Int)<=60/\BC l<=4000->(CI l=0->Cd o l n)/\(CT o≠0->EV o l=9/\CX o l= [])/\(CT o=0->EV o l=0/\(CX o l).length<=100000/\(∀x∈CX o l,x<=255)/\Gq (CX o l)=0/\unpV (CX o l)=o.val/\Ji (CX o l)=l)):=fun h=>by
  have hk:CI l=0:=Se nj h.2;have hb:(sZ false l).length<=16000:=mK hn z hk h.1 h.2;have hT:(AZ (l.map oZ)).length<=20000:=by have a:=Oh (l.map oZ);have b:=LL l;omega
  refine⟨fun _=>⟨nj,hb,hT,fun ho=>(Small.of ho nj h.2 z).x⟩,fun ho=> ?_,fun ho=> ?_⟩
  ·have e:EV o l=9:=(by unfold EV;rw[Ab ho,MX ho]);exact⟨e,by unfold CX;rw[Aa (by rw[e];decide)]⟩
  ·obtain⟨u1,u2,u3,u4,u5,u6⟩:=Y8 ho (Small.of (Qg ho).2.2.2.2.2 nj h.2 z);exact⟨u4,u5,u6,u1,u2,u3⟩
 have H9:Hid (CT o≠0->CT o=9):=fun h=>MX h;have D4:Hid (∀wx A2 c2 L,L=(CX o l).length->L<=100000->(∀x∈CX o l,x<=255)->Below w w wx->wx.ownsRow w 5 1 (.slice A2 L c2) L (dZ .u8 (CX o l))->Calls prog 38 #[.slice A2 L c2] wx (MV (CX o l) wx)):=fun wx A2 c2 L hl hL h8 hb ho=>by obtain⟨r1,r2,r3⟩:=YK ho hl.symm;exact ZS wx A2 L c2 _ hl.symm hL r1 h8 r2 (ht.step hb) r3
 have D5:=hid (fun wx=>o7 wx o)
 have DS:Hid (∀ (wx:World) Ay cy m,l.length=m->Below w w wx->Row wx wx Ay m 4 (BW l)->Calls prog 20 #[.slice A n c, .slice Ay m cy] wx fun e w'=>e= .returned (.bool true)/\Below wx wx w'):=fun wx Ay cy m hm hx hy=>by
  have:=aH wx A Ay n m c cy l l hn hm hN nj ((ha.below hx).mono hx.size) hy
  rwa [show JZ l l=true by simp[JZ]]at this
 unfold KA at D3;unfold Uj at D2;unfold MV at D4;generalize EV o l=E at *;generalize CX o l=F at *;generalize CT o=oE at *;generalize CI l=ck at *;generalize Cd o l n=cd at *;generalize Gq F=ue at *;generalize unpV F=uo at *;generalize Ji F=ul at *;generalize unpN F=un at *;obtain⟨S,pl,bu,da,pa,ch⟩:=o;unfold Opt.val at D3 D5 N ⊢;simp only at D3 D5 N ⊢;have HE:=Qm pl pl S S bu bu da da pa pa ch ch;have hd:decide (S=S/\pl=pl/\bu=bu/\da=da/\pa=pa/\ch=ch)=true:=Bd ⟨rfl,rfl,rfl,rfl,rfl,rfl⟩;rw[hd]at HE;have HN:=hid hn;clear hn z ht ha hd;go_enter func9,ntmps9;go_wp2_with fail;have ah:Blk (w.alloc (.cells #[S,pl,bu,da,pa,ch] 23)) w 23 #[S,pl,bu,da,pa,ch]:=Blk.made _ _ _;have M:Below w w (w.alloc (.cells #[S,pl,bu,da,pa,ch] 23)):=aZ (Ae _ _);generalize w.alloc (.cells #[S,pl,bu,da,pa,ch] 23)=wa at *;have i:Hid (∀wx,Below wa wa wx->Below w w wx):=fun wx h=>M.trans (h.mono M.size);have Q:=hid ah;have ak:=hid M;clear ah M;refine(D0.out wa ak.out).mono ?_;rintro e w1 ⟨rfl,ag⟩;have B1:Hid (Below wa wa w1):=ag;have E2:=hid (D2.out w1 (i.out _ B1.out));clear ag D0 D2;go_wp2_with fail;refine E2.out.mono ?_;rintro e w5 ⟨gr,rfl,U,aa⟩;have B5:Hid (Below wa wa w5):=cZ aa B1.out;clear aa E2 B1;cases gr with
 |true=>clear U;go_wp2_with fail;go_ret;exact⟨rfl,i.out _ B5.out⟩
 |false=>
  obtain⟨s1,s2,s3⟩:=N.out (U rfl);have E5:=hid (D3.out w5 (i.out _ B5.out) s1);have q5:=Q.out.step B5.out;obtain⟨k0,k1,k2,k3,k4,k5⟩:=q5.six;have am:=q5.lt;clear U D3 N s1 q5;by_cases ho:oE=0
  ·obtain⟨rfl,ae,af,rfl,rfl,rfl⟩:=s3 ho;have ai:=hid ae;have aj:=hid af;have ge:((0:Int)==0)=true:=rfl;clear s2 s3 D5 ho ae af;obtain⟨L,hL⟩:=ii F.length;have HL:=hid hL;rw[<-hL]at E5;clear hL;go_wp2_with fail;refine E5.out.mono ?_;rintro e w6 ⟨v6,rfl,j,J⟩;obtain⟨A6,c6,rfl⟩:=bZ j;have B6:Hid (Below wa wa w6):=cZ J B5.out;have ab:Hid (Below w w w6):=i.out _ B6.out;have E6:=hid (D4.out w6 A6 c6 L HL.out (by have:=HL.out;have:=ai.out;omega) aj.out ab.out (kZ j (i.out _ B5.out).size));clear j J E5 B5 D4 k0 k1 k2 k3 k4 k5;go_wp2_with fail;refine E6.out.mono ?_;rintro e w7 ⟨v7,rfl,Z,ac⟩;obtain⟨A7,c7,rfl⟩:=bZ Z;have B7:Hid (Below wa wa w7):=cZ ac B6.out;have Y:Hid (Below w w w7):=i.out _ B7.out;have q7:=Q.out.step B7.out;obtain⟨k0,k1,k2,k3,k4,k5⟩:=q7.six;have al:=q7.lt;have y:=Qu Z;have E7:Hid (∀wx,Below w7 w7 wx->Calls prog 20 #[.slice A n c, .slice A7 ul.length c7] wx fun e w'=>e= .returned (.bool true)/\Below wx wx w'):=fun wx hx=>DS.out wx A7 c7 ul.length rfl (cZ hx Y.out) ((y.below hx).mono hx.size);clear Z ac E6 B6 ab DS y q7;go_wp2_with fail;refine(E7.out _ (aZ (Ae _ _))).mono ?_;rintro e w8 ⟨rfl,G⟩;have B8:Hid (Below w w w8):=cZ G (pZ Y.out.size Y.out);clear G E7;go_wp2_with fail;go_ret;exact⟨rfl,B8.out⟩
  ·obtain⟨rfl,rfl⟩:=s2 ho;clear s2 s3 D4 DS;go_wp2_with fail;refine E5.out.mono ?_;rintro e w6 ⟨v6,rfl,j,J⟩;obtain⟨A6,c6,rfl⟩:=bZ j;have B6:Hid (Below wa wa w6):=cZ J B5.out;have q6:=Q.out.step B6.out;obtain⟨k0,k1,k2,k3,k4,k5⟩:=q6.six;have h9:=H9.out ho;rw[h9]at D5;clear j J E5 B5 q6 ho h9;go_wp2_with fail;refine(D5.out _).mono ?_;rintro e w8 ⟨rfl,G⟩;have B8:Hid (Below wa wa w8):=cZ G B6.out;clear G D5;go_wp2_with fail;go_ret;exact⟨rfl,i.out _ B8.out⟩
end Go.Proofs.YtfgdoknipbpfhaaGreatDoor
