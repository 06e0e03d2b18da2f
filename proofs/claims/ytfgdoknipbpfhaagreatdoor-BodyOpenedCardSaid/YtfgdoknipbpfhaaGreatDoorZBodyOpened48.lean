/- Plain: a body that w -/
import Derived.Test.YtfgdoknipbpfhaaGreatDoorZBodyOpened43
import Derived.Test.YtfgdoknipbpfhaaGreatDoorZBodyOpened47
namespace Go.Proofs.YtfgdoknipbpfhaaGreatDoor
open Go.Proofs.Tryz
open Go.Lib (hid)
variable{base c k n x:Nat}{C S ls:List Nat}{w:World}{A:Option Addr}
namespace Body
open NumPut Nums Go.Proofs.YtfgdoknipbpfhaaGreatDoor.One Recs Opts Crc
open Idx (AY Cf lZ Gl G4 Qn CO eqX)
open Block (Bu opE opO opA RG)
theorem T4{bs rest:List Nat}{rec:Nat}(hr:rec<=1000000000):∀ (G S:List Nat) (k:Nat) (cs ss:List Nat),G.length=S.length->bs.drop k=Bf G S++rest->(∀g∈G,g<=rec)->(∀s∈S,s<=8388608)->EF rec bs G.length k 0 cs ss=(cs++G,ss++S,k+(Bf G S).length,0)
 | [],[],k,cs,ss,_,_,_,_=>by simp[EF,Bf]
 | [],_ :: _,_,_,_,h,_,_,_=>pJ
 |_ :: _,[],_,_,_,h,_,_,_=>pJ
 |g :: G,s :: S,k,cs,ss,hl,h,hg,hs=>by rw[Bf,AJ,AJ]at h;obtain⟨i1,i2,i3⟩:=GT (most:=rec) h (hg g CD) hr;have h2:=Ew h;obtain⟨j1,j2,j3⟩:=GT (most:=8388608) h2 (hs s CD) mz;rw[AI,EF,Ab pI,i1,i2,i3,j1,j2,j3,T4 hr G S _ _ _ (by simpa using hl) (Ew h2) (fun x hx=>hg x (BW _ hx)) (fun x hx=>hs x (BW _ hx))];rw[Bf,Aj,Aj,AJ,AJ];refine Prod.ext rfl (Prod.ext rfl (Prod.ext ?_ rfl));simp only;omega
theorem bU{y:Nat}{G d:List Nat}(hd:d=Ei n G S x y)(hn:n<=20000)(hl:G.length=S.length)(hG:G.length<=n)(hg:∀g∈G,g<=n)(hs:∀s∈S,s<=8388608)(hx:x<=8388608)(hy:y<=8388608):
 Ek d=n/\Dp d=G/\Ea d=S/\dP d=x/\dQ d=y/\dE d=0:=by
 have e0:d.drop 0=fZ n++(fZ G.length++(Bf G S++(fZ x++(fZ y++ [])))):=by rw[hd,Ce];rfl
 obtain⟨a1,a2,a3⟩:=GT (most:=20000) e0 hn mz;have e1:=Ew e0;obtain⟨b1,b2,b3⟩:=GT (most:=n) e1 hG mz;have e2:=Ew e1;have hp:=T4 (rec:=n) mz G S _ [] [] hl e2 hg hs;have e3:=Ew e2;obtain⟨c1,c2,c3⟩:=GT (most:=8388608) e3 hx mz;have e4:=Ew e3;obtain⟨f1,f2,f3⟩:=GT (most:=8388608) e4 hy mz;have e5:=Ew e4;have r1:Ek d=n:=a1;have r2:G7 d=G.length:=by unfold G7;rw[r1,a2,a3,b1]
 have r3:Gk d=(G,S,0+(fZ n).length+(fZ G.length).length+(Bf G S).length,0):=by unfold Gk;rw[r1,r2,a2,a3,b2,b3,hp];rfl
 have r4:dPA d=0+(fZ n).length+(fZ G.length).length+(Bf G S).length+(fZ x).length:=by unfold dPA;rw[r3,c2]
 have r5:dPE d=0:=by unfold dPE;rw[r3,c3]
 refine⟨r1,by unfold Dp;rw[r3],by unfold Ea;rw[r3],by unfold dP;rw[r3,c1],by unfold dQ;rw[r4,r5,f1],?_⟩;unfold dE;rw[r4,r5,f2,f3];unfold Gu;rw[Ab];intro hk;have:=AE List.length e5;rw[AU,De]at this;omega
theorem aY(h:x<4294967296):Fx (CO x)=x:=by unfold Fx CO;simp only[List.getD_eq_getElem?_getD,List.getElem?_cons_zero,List.getElem?_cons_succ,Option.getD_some];omega
theorem bE{P D:List Nat}(hl:ls=P++(D++CO D.length))(hD:D.length<4294967296):Fq ls=D/\¬GL ls/\Fj ls=P.length/\ls.take (Fj ls)=P:=by
 have h4:(CO D.length).length=4:=rfl;have hn:ls.length=P.length+D.length+4:=by rw[hl,Aj,Aj,h4];omega
 have hd:ls.drop (ls.length-4)=CO D.length:=by rw[hn,hl,<-AJ,show P.length+D.length+4-4=(P++D).length by rw[Aj];omega,List.drop_left]
 have hv:Fx (ls.drop (ls.length-4))=D.length:=by rw[hd,aY hD]
 have hr:Fj ls=P.length:=by unfold Fj;rw[hv,hn];omega
 refine⟨?_,?_,hr,by rw[hr,hl,List.take_left]⟩
 ·unfold Fq;rw[hv,show ls.length-4-D.length=P.length by omega,hl,List.drop_left,List.take_left]
 ·unfold GL;rw[hv];omega
theorem Ra:∀ (FS:List (List Nat)) (rest:List Nat),Ds (FS.map List.length) (FS.flatten++rest)=FS
 | [],_=>rfl
 |f :: FS,rest=>by rw[Cs,List.flatten_cons,Ds,AJ,List.take_left,List.drop_left,Ra FS rest]
theorem Qu(wh pl:Bool):∀ (C:List Nat) (l:List Rec) (k:Nat),k<C.length->(Cv wh pl C l).getD k []=Bu (wZ wh ((l.drop (C.take k).sum).take (C.getD k 0))) pl
 | [],_,k,h=>pJ
 |c :: C,l,0,_=>by simp[Cv]
 |c :: C,l,k+1,h=>by have ih:=Qu wh pl C (l.drop c) k p5;rw[Cv,List.getD_cons_succ,ih,List.take_succ_cons,GI,List.drop_drop,List.getD_cons_succ]
def strip(r:Rec):Rec:=⟨0,0,r.source,r.text⟩
theorem aI{bs rest:List Nat}{r:Rec}(h:bs.drop k=CW false r++rest)(hl:CA r=false):EQ bs k 0=(strip r,k+(CW false r).length,0):=by
 obtain⟨h1,h2⟩:=IQ hl;have q0:bs.drop k=BF r.source++(BF r.text++rest):=by rw[h];unfold CW G8;simp
 have s1:Co 4000 (bs.drop k)=(sB r.source,(BF r.source).length,0):=by rw[q0,QC h1]
 have s2:Co 4000 (bs.drop (k+(BF r.source).length))=(sB r.text,(BF r.text).length,0):=by rw[Ew q0,QC h2]
 have z1:EI 4000 bs k 0=sB r.source:=by unfold EI;rw[Ab pI,s1]
 have z2:DQ 4000 bs k 0=k+(BF r.source).length:=by unfold DQ;rw[Ab pI,s1]
 have z3:DJ 4000 bs k 0=0:=by unfold DJ;rw[Ab pI,s1]
 have y1:EI 4000 bs (k+(BF r.source).length) 0=sB r.text:=by unfold EI;rw[Ab pI,s2]
 have y2:DQ 4000 bs (k+(BF r.source).length) 0=k+(BF r.source).length+(BF r.text).length:=by unfold DQ;rw[Ab pI,s2]
 have y3:DJ 4000 bs (k+(BF r.source).length) 0=0:=by unfold DJ;rw[Ab pI,s2]
 have i:(CW false r).length=(BF r.source).length+(BF r.text).length:=by unfold CW G8;simp
 unfold EQ;simp only[z1,z2,z3,y1,y2,y3,Wi];rw[i];refine Prod.ext rfl (Prod.ext ?_ rfl);show k+_+_=k+_;omega
theorem VV{bs:List Nat}:∀ (l:List Rec) (f k:Nat) (i:List Rec),bs.drop k=wZ false l->k<=bs.length->bs.length<=f+k->(∀r∈l,BY r)->(∀r∈l,CA r=false)->IN f bs k i=(i++l.map strip,0)
 | [],f,k,i,h,hk,hf,_,_=>by
  have:(bs.drop k).length=0:=oV
  rw[AU]at this;rw[Rg mz,FC,Ce]
 |r :: l,f,k,i,h,hk,hf,hok,hl=>by
  have hh:bs.drop k=CW false r++wZ false l:=oV
  have h2:=(OI false (hok r pI) (hl r pI)).2;have j:=AE List.length hh;rw[Aj,AU]at j;obtain⟨f,rfl⟩:∃f',f=f'+1:=⟨f-1,mz⟩;rw[IN,Ab mz,aI hh (hl r pI),Ab pI];simp only;rw[VV l f _ _ (Ew hh) mz mz (fun x hx=>hok x pW) (fun x hx=>hl x pW)];simp
theorem TM{l:List Rec}(j:∀r∈l,BY r):∀ (R:List Rec) (a:Nat),(∀i r,R[i]? =some r->l[a+i]? =some r)->DH (Bb l) (xZ l) a (R.map strip)=R
 | [],_,_=>rfl
 |r :: R,a,h=>by
  have h0:=h 0 r rfl;rw[Bj]at h0;obtain⟨t0,t1,t2,t3⟩:=j r (Bg h0);have et:(Bb l).getD a 0=r.time.toNat:=by unfold Bb;rw[Ar,BE,h0];rfl
  have el:(xZ l).getD a 0=r.level.toNat:=by unfold xZ;rw[Ar,BE,h0];rfl
  rw[Cs,DH,TM j R (a+1) (fun i x hx=>by have:=h (i+1) x (by simpa using hx);rwa [show a+1+i=a+(i+1) by omega]),et,el,show((r.time.toNat:Nat):Int)=r.time by omega,show((r.level.toNat:Nat):Int)=r.level by omega];rfl
theorem VJ{l:List Rec}(pl:Bool)(hC:C.sum=l.length)(j:∀r∈l,BY r)(hl:∀r∈l,CA r=false)(hb:(wZ false l).length<=16000)(hk:k<C.length):
 Eh C (Cv false pl C l) k=0/\FL C (Bb l) (xZ l) (Cv false pl C l) k=(l.drop (C.take k).sum).take (C.getD k 0):=by
 obtain⟨a,ha⟩:=ii ((C.take k).sum);obtain⟨c,hc⟩:=ii (C.getD k 0);have hF:=Qu false pl C l k hk;rw[<-ha,<-hc]at hF;have E:a+c<=l.length:=by have h1:=NY hk;have h2:=Lv C (k+1);rw[<-ha,<-hc]at h1;omega
 have h:∀r∈(l.drop a).take c,r∈l:=fun r hr=>Cb (C7 hr);have y:((l.drop a).take c).length=c:=by rw[Bd,AU];omega
 have z:(wZ false ((l.drop a).take c)).length<=16000:=by have h1:=ML false l a;have h2:=ML false (l.drop a) c;omega
 obtain⟨f1,f2,f3⟩:=RG (bs:=wZ false ((l.drop a).take c)) pl [] (N4 false (fun r hr=>j r (h r hr))) mz;rw[Ce]at f1 f2 f3;have hr:Gd (wZ false ((l.drop a).take c))=(((l.drop a).take c).map strip,0):=by unfold Gd;rw[VV ((l.drop a).take c) _ 0 [] pI mz mz (fun r hr=>j r (h r hr)) (fun r hr=>hl r (h r hr))];rfl
 have hE:Eh C (Cv false pl C l) k=0:=by unfold Eh;rw[hF,f1,f2,f3,hr,Ab pI,Ab pI,Ab pI,<-hc,Ab];simp only[List.length_map];omega
 refine⟨hE,?_⟩;unfold FL;rw[Ae hE,hF,f2,hr,<-ha,<-hc];refine TM j _ a fun i r hi=> ?_;rw[Gq]at hi;split at hi
 ·rw[I3]at hi;exact hi
 ·cases hi
theorem VO{C:List Nat}{l:List Rec}(pl:Bool)(hC:C.sum=l.length)(i:∀r∈l,BY r)(hl:∀r∈l,CA r=false)(hb:(wZ false l).length<=16000):∀ (m k:Nat) (h:List Rec),k+m=C.length->h=l.take (C.take k).sum->FM C (Bb l) (xZ l) (Cv false pl C l) m k h=(l,0)
 |0,k,h,hk,ha=>by
  obtain rfl:k=C.length:=mz
  rw[FM,ha,List.take_length,hC,List.take_length]
 |m+1,k,h,hk,ha=>by obtain⟨h1,h2⟩:=VJ pl hC i hl hb (k:=k) mz;rw[FM,h1,Ab pI,h2,VO pl hC i hl hb m (k+1) _ mz];rw[ha,NY mz,List.take_add]
theorem aD{l:List Rec}(pl:Bool)(hC:C.sum=l.length)(h:∀r∈l,BY r)(hk:CH l=0)(hb:(wZ false l).length<=16000):
 G3 C (Bb l) (xZ l) (Db l) (Cv false pl C l)=0/\Jw C (Bb l) (xZ l) (Db l) (Cv false pl C l)=l:=by
 have hg:=VO pl hC h (Js hk) hb C.length 0 [] mz pI;have hE:G3 C (Bb l) (xZ l) (Db l) (Cv false pl C l)=0:=by unfold G3;rw[Ly,hg];unfold MH;rw[Ab pI,hk,Ab pI,Ae (by simp[eqX])]
 refine⟨hE,?_⟩;unfold Jw;rw[Ae hE,Ly,hg]
theorem ZX{o:Opt}{l:List Rec}(ho:C8 o=0)(aq:CH l=0)(ag:∀r∈l,BY r)(hb:(wZ false l).length<=16000)(hT:(AY (l.map lZ)).length<=1048576)(ar:(ixR o l).length<=99000)(hn:l.length<=1000):
 Hs o (Cw o l)=0/\Dp (Dt (Cw o l))=yZ o l/\Ea (Dt (Cw o l))=(Cv false o.plain (yZ o l) l).map List.length/\oN (Cw o l)=l.length/\Ee l.length (Br (Hv (Cw o l)))=(Bb l,xZ l,(Dh l).length,0)/\
  Idx.ixR o.bucket.toNat l.length (Br (Hu (Cw o l)))=(Db l,0)/\Ds (Ea (Dt (Cw o l))) ((Cw o l).take (Fj (Cw o l)))=Cv false o.plain (yZ o l) l:=by
 obtain⟨ls,ah⟩:=ii (Cw o l);rw[<-ah];have j:=JR o l;have aj:=Lx o l;have ae:∀x∈yZ o l,1<=x:=Nc _ _;obtain⟨C,hC⟩:=ii (yZ o l);obtain⟨FS,J⟩:=ii (Cv false o.plain C l);rw[<-hC]at j aj ae ⊢;rw[<-J];have ak:FS.length=C.length:=by rw[J,Ly]
 have au:FS.flatten.length<=(wZ false l).length+25*C.length:=by rw[J];exact Kk false o.plain C l hb
 have am:=LX ag mz;obtain⟨X,hX⟩:=ii (AR (ixR o l));obtain⟨K,hK⟩:=ii (AR (Dh l));have an:X.length=(ixR o l).length+4:=by rw[hX,Dy]
 have av:K.length=(Dh l).length+4:=by rw[hK,Dy]
 obtain⟨d,hd⟩:=ii (Ei l.length C (FS.map List.length) K.length X.length);have ai:ls=(FS.flatten++(K++X))++(AR d++CO (AR d).length):=by rw[ah];unfold Cw EP;rw[<-hC,<-J,<-hX,<-hK,<-hd];simp only[List.append_assoc]
 have hS:∀s∈FS.map List.length,s<=FS.flatten.length:=fun s hs=>by rw[List.length_flatten];exact IJ hs
 have ac:(FS.map List.length).sum=FS.flatten.length:=List.length_flatten.symm;have af:∀g∈C,g<=l.length:=fun g hg=>by rw[<-j];exact IJ hg
 have al:=PN (n:=l.length) (G:=C) (S:=FS.map List.length) (x:=K.length) (y:=X.length) mz mz (fun z hz=>by have:=af z hz;omega) (fun z hz=>by have:=hS z hz;omega) mz mz;rw[<-hd]at al;obtain⟨p1,p2,p3,p4⟩:=bE ai (by rw[Dy];omega);obtain⟨q1,q2,q3,q4,q5,q6⟩:=bU hd mz (by rw[Bc,ak]) mz af (fun s hs=>by have:=hS s hs;omega) mz mz;have hcut:CL (AR d)=0/\Br (AR d)=d:=Ph d;have i:Dt ls=d:=by unfold Dt;rw[p1];exact hcut.2
 have hN:oN ls=l.length:=by unfold oN;rw[i,q2,j]
 have U:Hv ls=K:=by unfold Hv;rw[p4,i,q3,q4,ac,List.drop_left,List.take_left]
 have M:Hu ls=X:=by unfold Hu;rw[p4,i,q3,q4,ac,<-List.drop_drop,List.drop_left,List.drop_left]
 have aa:CL K=0/\Br K=Dh l:=by rw[hK];exact Ph _
 have ab:CL X=0/\Br X=ixR o l:=by rw[hX];exact Ph _
 have E:=V2 ag mz;obtain⟨_,_,b3,b4⟩:=Mo ho;have Q:=Lf l;have N:Idx.ixR o.bucket.toNat l.length (ixR o l)=(Db l,0):=by unfold ixR Db;exact Qn mz mz mz (KL hT) (by rw[Bc]) Q.1 (fun x hx=>(Q.2 x hx).1)
 refine⟨?_,by rw[i,q2],by rw[i,q3],hN,by rw[U,aa.2,E],by rw[M,ab.2,N],by rw[i,q3,p4,Ra]⟩;have Z:Hy l.length K=0:=by unfold Hy;rw[aa.1,aa.2,E,Ab pI,Ab pI,Ab pI]
 have Y:Gj (Fj ls) d=0:=by
  unfold Gj;rw[q6,q2,q1,q3,q4,q5,p3,Ab pI,Ab];rintro(h|h|h)
  ·have:=ae 0 h;omega
  ·exact h j
  ·rw[ac,Aj,Aj]at h;omega
 unfold Hs opnF opnD opnC opnI;rw[ho,p1,hcut.1,i,Y,hN,U,Z,M,ab.1,ab.2,N,Ab pI,Ab p2];simp
end Body
namespace Idx
open NumPut Sift
def By(l:List Str):Nat:=(l.map fun s=>s.length+1).sum
theorem Hh(s:Str)(l:List Str):By (s :: l)=s.length+1+By l:=by simp[By]
theorem OO(a b:List Str):By (a++b)=By a+By b:=by simp[By]
theorem TA(row:List UInt8):By (tell row)<=row.length+1:=by
 unfold tell;split
 ·simp[By]
 ·simp[By];omega
theorem OG:∀ (l row:List UInt8),By (split row l)<=row.length+l.length+1
 | [],row=>by rw[split];simpa using TA row
 |c :: t,row=>by
  rw[split];split
  ·have:=OG t (row++ [GV c]);simp at this ⊢;omega
  ·have h1:=OG t [];have h2:=TA row;rw[OO];simp at h1 ⊢;omega
theorem QT(l:List UInt8):By (words l)<=l.length+1/\2*(words l).length<=l.length+1:=by
 have h:=OG l []
 have h2:∀m:List Str,(∀s∈m,1<=s.length)->2*m.length<=By m:=fun m=>by
  induction m with
  |nil=>intro _;simp[By]
  |cons s m ih=>intro hs;have a:=ih (fun x hx=>hs x (BW _ hx));have b:=hs s CD;rw[Hh,AI];omega
 have h3:=h2 (words l) (fun s hs=>(Km l [] s hs).1);have h4:By (words l)<=l.length+1:=by unfold words;simpa using h
 exact⟨h4,mz⟩
theorem To(s:Str):∀l,By (Fc l s)<=By l+s.length+1
 | []=>by simp[Fc,By]
 |x :: t=>by
  have:=To s t;rw[Fc];split
  ·rw[Hh,Hh];omega
  ·split<;>simp only[Hh]<;>omega
theorem NO:∀ (l h:List Str),By (EB h l)<=By h+By l
 | [],h=>by simp[EB,By]
 |x :: t,h=>by have h1:=NO t (Fc h x);have h2:=To x h;unfold EB at h1 ⊢;rw[List.foldl_cons,Hh];omega
theorem SV:∀m:List Str,By (m.map (I9 :: ·))=By m+m.length
 | []=>rfl
 |s :: m=>by rw[Cs,Hh,SV m,Hh,AI,AI];omega
theorem Zm(t s:List UInt8):2*By (Hi t s)<=2*t.length+3*s.length+5:=by have h1:=NO (Hb t s) [];have h2:=QT t;have h3:=QT s;have h4:=SV (words s);unfold Hi;unfold Hb at h1 ⊢;rw[OO]at h1;simp only[By,List.map_nil,List.sum_nil]at h1 h2 h3 h4 ⊢;omega
theorem Tb:∀ (ts:List (List Str)) (h:List Str),By (ts.foldl EB h)<=By h+(ts.map By).sum
 | [],h=>pI
 |t :: ts,h=>by have h1:=Tb ts (EB h t);have h2:=NO t h;rw[List.foldl_cons,Cs,GI];omega
theorem QG:∀ (t:List Str) (i:Str),i.length<=25->(∀s∈t,s.length<=25)->(Eg i t).length<=By t+t.length
 | [],_,_,_=>by simp[Eg]
 |x :: t,i,hw,h=>by
  have hx:=h x CD;have ih:=QG t x hx (fun s hs=>h s (BW _ hs));have ha:=KM i x;have hd:(Dc (x.drop (Bt i x))).length<=1+x.length:=by unfold Dc G9;rw[Aj,Bc,JQ nm,AU];omega
  rw[Eg,Aj,Aj,JQ mz,Hh,AI];omega
theorem lJ{c:List Str}(h:∀s∈c,s.length<=25):(tZ c).length<=By c+c.length:=by
 cases c with
 |nil=>simp[tZ]
 |cons x t=>
  have hx:=h x CD;have ih:=QG t x hx (fun s hs=>h s (BW _ hs));have hd:(Dc x).length=1+x.length:=by unfold Dc G9;rw[Aj,Bc,JQ mz]
  rw[tZ,Aj,Hh,AI];omega
theorem VL{size:Nat}(h1:1<=size)(h2:size<=64):∀ (f:Nat) (l:List Str),(∀s∈l,s.length<=25)->((Dn size f l).flatMap tZ).length<=By l+l.length/\((Dn size f l).flatMap fun c=>fZ (tZ c).length).length<=2*l.length
 |0,l,_=>by simp[Dn]
 |f+1,l,h=>by
  rw[Dn];split
  ·simp
  ·rename_i e;have hp:1<=l.length:=FD.2 e;obtain⟨a,b⟩:=VL h1 h2 f (l.drop size) (fun s hs=>h s (Cb hs));have ht:∀s∈l.take size,s.length<=25:=fun s hs=>h s (C7 hs);have c:=lJ ht;have d:=LY (l:=l.take size) ht;have g:(fZ (tZ (l.take size)).length).length<=2:=Block.Ik (by rw[Bd]at d;omega);have k:By l=By (l.take size)+By (l.drop size):=(by rw[<-OO,EM]);rw[AU]at a b;rw[Bd]at c;rw[Ct,Ct,Aj,Aj];constructor<;>omega
theorem ZS{size:Nat}{l:List Str}(h1:1<=size)(h2:size<=64)(h:∀s∈l,s.length<=25)(hl:l.length<=1000000):(Dg size l).length<=10+By l+3*l.length:=by obtain⟨a,b⟩:=VL h1 h2 l.length l h;have c:=sZ (x:=l.length) mz;unfold Dg GF;rw[Aj,Aj];omega
end Idx
namespace Body
open NumPut Recs Opts Idx Go.Proofs.YtfgdoknipbpfhaaGreatDoor.One
open Ef (efO Ca efW Hk Fs Ha)
open Huff (bytesOf_length)
theorem ZA{bound:Nat}{l:List Nat}(hb:bound<=60)(hm:Ca bound none l=true)(h0:l≠ [])(hn:l.length<=bound):(efO bound l).length<=24:=by
 have h:=UD mz hm h0 hn;have h1:efO bound l=fZ l.length++Huff.bytesOf (Fs (efW bound l.length) l):=Ab h0;have h2:1<=l.length:=FD.2 h0;have hq:1<=bound / l.length:=(Nat.one_le_div_iff mz).2 hn;have hW:l.length*efW bound l.length<=bound:=jw
 have i:=Hk (efW bound l.length) l;have z:=Ha bound l none hm;have hp:=(Nb bound l none hm).1;have j:=Ni (l.map (·/ 2 ^ efW bound l.length)) 0 bound (Cr _) (fun x hx=>by obtain⟨y,hy,rfl⟩:=Cc.1 hx;exact⟨Cr _,AN (Ho _ _) (by have:=z y hy;omega)⟩) (List.Pairwise.map _ (fun a b h=>Nat.div_le_div_right h) hp);rw[Bc]at j;rw[h1,Aj,JQ mz,bytesOf_length];unfold Fs;rw[Aj,i];omega
theorem Uz:∀l:List Rec,2*((((l.map lZ).map By).sum:Nat):Int)<=3*Bp l
 | []=>by simp[J7]
 |r :: l=>by
  have ih:=Uz l;have e:Bp (r :: l)=weigh r+Bp l:=pM
  have h:=Zm r.text.data.toList r.source.data.toList;have h1:r.text.data.toList.length=r.text.size:=Array.length_toList;have h2:r.source.data.toList.length=r.source.size:=Array.length_toList;rw[h1,h2]at h;have h3:2*By (lZ r)<=2*r.text.size+3*r.source.size+5:=h;rw[Cs,Cs,GI,e];unfold weigh;omega
theorem Zv{l:List Rec}(h:∀r∈l,BY r)(hl:∀r∈l,CA r=false):((wZ false l).length:Int)<=Bp l:=by
 induction l with
 |nil=>simp[wZ,J7]
 |cons r l ih=>
  have ih:=ih (fun x hx=>h x (BW _ hx)) (fun x hx=>hl x (BW _ hx));have e:Bp (r :: l)=weigh r+Bp l:=pM
  obtain⟨q1,q2⟩:=IQ (hl r CD);have a:(BF r.source).length<=2+r.source.size:=by unfold BF;rw[Aj,KU];have:=Block.Ik (x:=r.source.size) mz;omega
  have b:(BF r.text).length<=2+r.text.size:=by unfold BF;rw[Aj,KU];have:=Block.Ik (x:=r.text.size) mz;omega
  have c:wZ false (r :: l)=CW false r++wZ false l:=rfl;have d:CW false r=BF r.source++BF r.text:=rfl;rw[c,d,e,Aj,Aj];unfold weigh;omega
theorem OH:∀ (l:List Int) (a:Int),(∀x∈l,0<=x)->a<=l.foldl (·+ ·) a
 | [],a,_=>pI
 |x :: l,a,h=>by have:=OH l (a+x) (fun y hy=>h y (by simp[hy]));have:=h x pI;rw[List.foldl_cons];omega
theorem Zi{l:List Rec}{r:Rec}(hr:r∈l):weigh r<=Bp l:=by
 obtain⟨a,b,rfl⟩:=List.append_of_mem hr;have hp:∀x∈(List.map weigh b),0<=x:=fun x hx=>by obtain⟨y,_,rfl⟩:=Cc.1 hx;unfold weigh;omega
 have hq:∀x∈(List.map weigh a),0<=x:=fun x hx=>by obtain⟨y,_,rfl⟩:=Cc.1 hx;unfold weigh;omega
 have h1:=OH _ 0 hq;have h2:=OH _ ((List.map weigh a).foldl (·+ ·) 0+weigh r) hp;unfold Bp;rw[EN,Cs,List.foldl_append,List.foldl_cons];omega
theorem Sz{l:List Rec}(hn:(l.length:Int)<=60)(hw:Bp l<=4000):CH l=0:=by
 have i:¬l.any CA=true:=by intro h;obtain⟨r,hr,hl⟩:=List.any_eq_true.1 h;have:=Zi hr;unfold weigh at this;unfold CA at hl;simp at hl;omega
 unfold CH;rw[Ab mz,Ab i,Ab mz]
theorem Y0{o:Opt}{l:List Rec}(ho:C8 o=0)(h1:l.length<=60)(h2:Bp l<=4000)(j:∀r∈l,BY r)(hk:CH l=0):
 (AY (l.map lZ)).length<=20000/\(ixR o l).length<=99000/\(wZ false l).length<=16000/\(Cw o l).length<=99000:=by
 have hw:=Uz l;have hs:By (AY (l.map lZ))<=6000:=by have:=Tb (l.map lZ) [];have e:By ([]:List Str)=0:=rfl;unfold AY;omega
 have hn:2*(AY (l.map lZ)).length<=By (AY (l.map lZ)):=by
  have h:=KL (l:=l) (by have:=Li l;have:=MD (l.map lZ);omega)
  have h3:∀m:List Str,(∀s∈m,1<=s.length)->2*m.length<=By m:=fun m=>by
   induction m with
   |nil=>intro _;simp[By]
   |cons s m ih=>intro hs;have a:=ih (fun x hx=>hs x (BW _ hx));have b:=hs s CD;rw[Hh,AI];omega
  exact h3 _ (fun s hs=>(Jj h s hs).1)
 have h:=KL (l:=l) mz;obtain⟨_,_,b3,b4⟩:=Mo ho;have i:=Lf l;have hd:=ZS (size:=o.bucket.toNat) (l:=AY (l.map lZ)) mz mz (fun s hs=>(Jj h s hs).2) mz;have hl:=N7 (bound:=l.length) (C:=24) (ls:=(AY (l.map lZ)).map (Cf (l.map lZ))) (fun x hx=>by have h3:=i.2 x hx;exact ZA h1 (FW.1 i.1 x hx) h3.1 h3.2);rw[Bc]at hl;have hx:(ixR o l).length<=88000:=by unfold ixR ixO;rw[Aj];omega
 have hb:=Zv j (Js hk);refine⟨mz,mz,mz,?_⟩;have M:=Lx o l;have N:=JR o l;have Q:=Kk false o.plain (yZ o l) l mz;have J:=LX j mz;have hF:∀s∈(Cv false o.plain (yZ o l) l).map List.length,s<=(Cv false o.plain (yZ o l) l).flatten.length:=fun s hs=>by rw[List.length_flatten];exact IJ hs
 have E:=PN (n:=l.length) (G:=yZ o l) (S:=(Cv false o.plain (yZ o l) l).map List.length) (x:=(AR (Dh l)).length) (y:=(AR (ixR o l)).length) mz mz (fun z hz=>by have:=IJ hz;omega) (fun z hz=>by have:=hF z hz;omega) (by rw[Dy];omega) (by rw[Dy];omega);unfold Cw EP;simp only[List.length_append];rw[Dy,Dy,Dy];have h4:∀z,(CO z).length=4:=fun _=>rfl;rw[h4];rw[Dy,Dy]at E;omega
end Body
namespace Body
open Go.RowKit Mem Go.Proofs.YtfgdoknipbpfhaaGreatDoor.Own Canon Nums Recs Opts
open Crc (TabAt)
open Idx (Str IxAt AY lZ)
structure Small (o:Opt) (l:List Rec):Prop where
 ob:C8 o=0
 n:l.length<=60
 ck:CH l=0
 ok:∀r∈l,BY r
 t:(AY (l.map lZ)).length<=20000
 x:(ixR o l).length<=99000
 b:(wZ false l).length<=16000
 m:(Cw o l).length<=99000
theorem Small.of{o:Opt}{l:List Rec}(ho:C8 o=0)(h1:(l.length:Int)<=60)(h2:Bp l<=4000)(h:∀r∈l,BY r):Small o l:=by have hk:=Sz h1 h2;obtain⟨a,b,c,d⟩:=Y0 ho mz h2 h hk;exact⟨ho,mz,hk,h,a,b,c,d⟩
def FR(o:Opt)(l:List Rec):List (List Nat):=Cv false o.plain (yZ o l) l
theorem YV{o:Opt}{l:List Rec}(h:∀r∈l,BY r):∀x∈Cw o l,x<=255:=Uf (NV false o.plain _ l h) (VR h) (Sh o l)
theorem Small.all{o:Opt}{l:List Rec}(h:Small o l):(yZ o l).length=(FR o l).length/\(Bb l).length=(yZ o l).sum/\(xZ l).length=(yZ o l).sum/\(∀f∈FR o l,f.length<=100000/\∀x∈f,x<=255)/\(yZ o l).sum<=20000/\(FR o l).length<=20000:=by have hs:=JR o l;have hc:=Lx o l;have hn:=h.n;have hf:=Ly false o.plain (yZ o l) l;have i:=Kk false o.plain (yZ o l) l h.b;have hb:=h.b;refine⟨hf.symm,by unfold Bb;rw[Bc,hs],by unfold xZ;rw[Bc,hs],fun f hf=>⟨?_,fun x hx=>NV false o.plain (yZ o l) l h.ok x (List.mem_flatten.2 ⟨f,hf,hx⟩)⟩,mz,by unfold FR;omega⟩;have h1:f.length<=((FR o l).map List.length).sum:=IJ (Cc.2 ⟨f,hf,rfl⟩);rw[<-List.length_flatten]at h1;unfold FR at h1;omega
theorem Small.ix{o:Opt}{l:List Rec}(h:Small o l):(Db l).1.length<=20000/\(Db l).2.length<=20000/\∀x∈(Db l).2,x.length<=20000:=by have ht:=h.t;have hn:=h.n;refine⟨ht,by unfold Db;simp only;rw[Bc];exact ht,fun x hx=> ?_⟩;have:=((Lf l).2 x hx).2;omega
def OE(o:Opt)(l:List Rec)(w:World)(e:Ending)(w':World):Prop:=
 ∃gb,e= .returned (.tuple #[.pointer (some ⟨gb,0,none⟩),ij])/\BodyAt w' w gb (yZ o l) ((FR o l).map List.length) (Bb l) (xZ l) (Db l) (FR o l) (List.replicate (FR o l).length false)/\Below w w w'
theorem bI(w:World)(o:Opt)(A:Option Addr)(n c:Nat)(l:List Rec)(h:Small o l)(hn:(Cw o l).length=n)(hc:n<=c)(i:A=none->n=0/\c=0)(ht:TabAt w)(ha:Row w w A n 1 (jZ .u8 (Cw o l))):
 Calls prog 13 #[o.val, .slice A n c] w (OE o l w):=by
 obtain⟨e0,e1,e2,e3,e4,e5,e6⟩:=ZX h.ob h.ck h.ok h.b (by have:=h.t;omega) h.x (by have:=h.n;omega);refine(ZY w o A n c (Cw o l) hn (by have:=h.m;omega) hc (YV h.ok) i ht ha).mono ?_;rintro e w' ⟨hb,_,j⟩;obtain⟨gb,rfl,hB⟩:=j e0;rw[e3,e4,e5,e6,e1,e2,Bc]at hB;exact⟨gb,rfl,hB,hb⟩
end Body
namespace Body
open Go.RowKit Mem Go.Proofs.YtfgdoknipbpfhaaGreatDoor.Own Canon Nums Recs Opts
open Crc (TabAt Br CL)
open Go.Proofs.YtfgdoknipbpfhaaGreatDoor.Open (Hq)
open Idx (Str IxAt)
open Huff (MK)
theorem Sm{i:List Nat}(h:w.ownsRow base 3 1 (.slice A n c) n (cZ .i64 i))(hn:i.length=n):Row w w A n 1 (Hq .i64 (i.map Int.ofNat)):=Idx.own_ints h hn
theorem WW(h:w.ownsRow base 5 1 (.slice A n c) n (cZ .u8 ls))(hn:ls.length=n):Row w w A n 1 (jZ .u8 ls):=by subst hn;exact own_row h
end Body
namespace Body
open Go.RowKit Mem Go.Proofs.YtfgdoknipbpfhaaGreatDoor.Own Canon Nums Recs Opts
open Crc (TabAt)
def Hz(F:List (List Nat))(i:Int):Prop:=0<=i/\i<(F.length:Int)
instance (F:List (List Nat)) (i:Int):Decidable (Hz F i):=by unfold Hz;infer_instance
def ftcE(C:List Nat)(F:List (List Nat))(i:Int):Int:=if Hz F i then Eh C F i.toNat else 13
theorem BodyAt.ask{gb:Nat}{T L:List Nat}{X:List Idx.Str×List (List Nat)}{F:List (List Nat)}{K:List Bool}(h:BodyAt w base gb C S T L X F K)(k:Nat)(hk:k<K.length):
 ∃ga c cs,w.cell? ⟨gb,9,none⟩=some (.slice (some ⟨ga,0,none⟩) K.length c)/\base<=ga/\Blk w ga 4 cs/\(∃b,w.cell? ⟨ga,k,none⟩=some (.bool b))/\w.frozen? ⟨ga,k,none⟩=false/\BodyAt (w.setCell ⟨ga,k,none⟩ (.bool true)) base gb C S T L X F (K.set k true):=by
 obtain⟨vc,vs,p,q,vt,vl,vT,vL,vF,va,vals,fv,h0,h1,h2,h3,h4,h5,h6,h7⟩:=h;obtain⟨A,c,rfl⟩:=bZ h7;obtain⟨ga,cX,hA,y,_⟩:=h7.form mz;injection hA with q1 q2 q3;subst q1 q3;clear q2
 obtain⟨cs,j⟩:∃cs,Blk w ga 4 cs:=by
  rcases h7.2 with ⟨h',_⟩|⟨g,z,cur,h',_,hg,_⟩
  ·cases h'
  ·injection h' with h1 h2 h3;injection h1 with h1;injection h1 with h1;subst h1;exact⟨cur,hg⟩
 have far:∀ {n:Nat} {e:TypeId} {v:Value} {xs:List Value},w.ownsRow base e 1 v n xs->e≠4->(w.setCell ⟨ga,k,none⟩ (.bool true)).ownsRow base e 1 v n xs:=fun ho hne=>BZ ho (gZ ho j hne) _;have hc:w.cell? ⟨ga,k,none⟩=some (.bool (K[k]'hk)):=by rw[h7.cellAt k mz,BE,AD hk];rfl
 refine⟨ga,c,cs,h0.cell 9,y,j,⟨_,hc⟩,h7.frozenAt k,vc,vs,p,q,vt,vl,vT,vL,vF,_,vals,fv,h0.far (fun e=>Blk.apart j h0 ip e.symm) _,far h1 ip,far h2 ip,far h3 ip,far h4 ip,⟨far h5.t ip,far h5.l ip,fun i v ids hv hi=>far (h5.r i v ids hv hi) ip⟩,h6.set j ip ip k _,?_⟩;have h:=(World.ownsRow.stored h7 k (.bool true)).1;rw[List.length_set,List.map_set];exact h
end Body
namespace Body
open Go.RowKit Mem Go.Proofs.YtfgdoknipbpfhaaGreatDoor.Own Canon Nums Recs Opts
open Crc (TabAt)
def Pz(gb:Nat)(C:List Nat)(F:List (List Nat))(K:List Bool)(i:Int)(w:World)(e:Ending)(w':World):Prop:=
 ∃v,e= .returned (.tuple #[v, .int .i64 (ftcE C F i)])/\(Hz F i->∃ga c,w.cell? ⟨gb,9,none⟩=some (.slice (some ⟨ga,0,none⟩) K.length c)/\Below w (w.setCell ⟨ga,i.toNat,none⟩ (.bool true)) w')/\(¬Hz F i->Below w w w')
set_option maxHeartbeats 4000000 in
set_option maxRecDepth 100000 in
theorem kJ(w:World)(base gb:Nat)(i:Int)(C S T L:List Nat)(X:List Idx.Str×List (List Nat))(F:List (List Nat))(K:List Bool)(hK:K.length=F.length)(J:C.length=F.length)(hT:T.length=C.sum)(hL:L.length=C.sum)(hF:∀f∈F,f.length<=100000/\∀x∈f,x<=255)(hN:C.sum<=20000)(M:F.length<=20000)(j:0<base)(ht:TabAt w)(y:BodyAt w base gb C S T L X F K):
 Calls prog 16 #[.pointer (some ⟨gb,0,none⟩),i] w (Pz gb C F K i w):=by
 have U:=y;obtain⟨vc,vs,p,q,vt,vl,vT,vL,vF,va,vals,fv,h0,h1,h2,h3,h4,h5,h6,h7⟩:=U;have G:=h6.l;obtain⟨nf,z⟩:=ii F.length;rw[<-z]at G;obtain⟨AF,dF,rfl⟩:=bZ G;have c8:=h0.ia 8;by_cases hi:Hz F i
 ·have hE:ftcE C F i=Eh C F i.toNat:=Ae hi;unfold Pz;rw[hE];have Z:=hi;obtain⟨i0,i1⟩:=hi;obtain⟨k,rfl⟩:=Iz i0;rw[show((k:Nat):Int).toNat=k from rfl];have hk:k<F.length:=by omega
  obtain⟨ga,c,cs,c9,Q,aa,⟨b,cb⟩,fz,N⟩:=y.ask k mz;have Y:TabAt (w.setCell ⟨ga,k,none⟩ (.bool true)):=ht.below (B:=base) ((Ag base w).setCell (p:=⟨ga,k,none⟩) Q _) j;have D:=hid (RC (w.setCell ⟨ga,k,none⟩ (.bool true)) base gb k C S T L X F (K.set k true) hk J hT hL hF hN M Y N);unfold LN at D;have HI:Hid (Hz F (k:Nat)):=Z;have C9:=hid c9;have g0:=ig ((k:Int)<0)
  have g1:=ig ((nf:Int)<=k)
  have ac:=ig (nf<=k)
  have y1:(k:Int)<(K.length:Int):=mz
  have y0:(0:Int)<=(k:Int):=mz
  generalize ab:K.length=kl at *;generalize Eh C F k=E at *;generalize FL C T L F k=O at *;clear y N h0 h1 h2 h3 h4 h5 h6 h7 G z hK J hT hL hF hN M ht Y j hE aa Q ab hk i0 i1 Z;go_enter func16,ntmps16;go_wp2_with fail;refine D.out.mono ?_;rintro e w2 ⟨v2,rfl,ho,hb⟩;have HB:Hid (Below w (w.setCell ⟨ga,k,none⟩ (.bool true)) w2):=hid (by simpa using hb);clear ho hb D;go_wp2_with fail;go_ret2;exact⟨_,rfl,fun _=>⟨ga,c,C9.out,HB.out⟩,fun h=>absurd HI.out h⟩
 ·have hE:ftcE C F i=13:=Ab hi;unfold Pz;rw[hE];have HI:=hid hi;by_cases i0:i<0
  ·have g0:decide (i<0)=true:=(by simpa using i0);clear y h0 h1 h2 h3 h4 h5 h6 h7 G z hK J hT hL hF hN M ht j hE hi i0;go_enter func16,ntmps16;go_wp2_with fail;go_ret2;exact⟨_,rfl,fun h=>absurd h HI.out,fun _=>Ag _ _⟩
  ·have g0:decide (i<0)=false:=(by simpa using i0);have g1:decide ((nf:Int)<=i)=true:=(by rw[decide_eq_true_eq,z];refine Ju fun h=>hi ⟨mz,mz⟩);clear y h0 h1 h2 h3 h4 h5 h6 h7 G z hK J hT hL hF hN M ht j hE hi i0;go_enter func16,ntmps16;go_wp2_with fail;go_ret2;exact⟨_,rfl,fun h=>absurd h HI.out,fun _=>Ag _ _⟩
def BodyIn(B:Nat)(w:World)(base gb:Nat)(C S T L:List Nat)(X:List Idx.Str×List (List Nat))(F:List (List Nat))(K:List Bool):Prop:=
 ∃w1,w1.heap.size=B/\BodyAt w1 base gb C S T L X F K/\Below B w1 w
section
variable {B base gb:Nat} {w w':World} {C S T L:List Nat} {X:List Idx.Str×List (List Nat)} {F:List (List Nat)} {K:List Bool}
theorem BodyIn.at_(h:BodyIn B w base gb C S T L X F K):BodyAt w base gb C S T L X F K:=by obtain⟨w1,rfl,h1,h2⟩:=h;exact h1.step h2
theorem BodyIn.step(h:BodyIn B w base gb C S T L X F K)(hb:Below B w w'):BodyIn B w' base gb C S T L X F K:=by obtain⟨w1,e,h1,h2⟩:=h;exact⟨w1,e,h1,h2.trans hb⟩
theorem aN{B:Nat}{a b:World}{p:Addr}(h:Below B a b)(u:Value):Below B (a.setCell p u) (b.setCell p u):=by refine⟨h.os,h.tape,h.output,by simpa[World.setCell]using h.size,fun y hy=> ?_⟩;simp only[World.setCell,Array.getElem?_modify];rw[h.block y hy]
theorem BodyIn.fetch{ga:Nat}(h:BodyIn B w base gb C S T L X F K)(hk:k<K.length)(hc:w.cell? ⟨gb,9,none⟩=some (.slice (some ⟨ga,0,none⟩) K.length c))(hB:B<=w.heap.size)(hb:Below w (w.setCell ⟨ga,k,none⟩ (.bool true)) w'):ga<B/\base<=ga/\BodyIn B w' base gb C S T L X F (K.set k true):=by
 obtain⟨w1,e,h1,h2⟩:=h;obtain⟨g1,c1,cs,d9,y,z,_,_,h3⟩:=h1.ask k hk;have j:gb<B:=by obtain⟨vc,vs,p,q,vt,vl,vT,vL,vF,va,vals,fv,h0,_⟩:=h1;rw[<-e];exact h0.lt
 have i:w.cell? ⟨gb,9,none⟩=some (.slice (some ⟨g1,0,none⟩) K.length c1):=(h2.cell (p:=⟨gb,9,none⟩) j).trans d9;rw[hc]at i;injection i with q;injection q with q1 q2 q3;injection q1 with q1;injection q1 with q1;subst q1;have E:ga<B:=by rw[<-e];exact z.lt
 refine⟨E,y,w1.setCell ⟨ga,k,none⟩ (.bool true),by simpa using e,h3,(aN h2 _).trans (hb.mono hB)⟩
end
end Body
end Go.Proofs.YtfgdoknipbpfhaaGreatDoor
