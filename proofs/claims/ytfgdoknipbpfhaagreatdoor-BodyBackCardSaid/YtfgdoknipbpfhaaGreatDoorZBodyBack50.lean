/- Plain: a body that w -/
import Derived.Test.YtfgdoknipbpfhaaGreatDoorZBodyBack45
import Derived.Test.YtfgdoknipbpfhaaGreatDoorZBodyBack49
namespace Go.Proofs.YtfgdoknipbpfhaaGreatDoor
variable{base c k n x:Nat}{C ls:List Nat}{w:World}{A:Option Addr}
namespace Body
open NumPut Nums Go.Proofs.YtfgdoknipbpfhaaGreatDoor.One Recs Opts Crc
open Idx (AQ BK kZ Gn Ho TX CR eqX)
open Block (Br opE opO opA RJ)
theorem Sc{bs rest:List Nat}{rec:Nat}(hr:rec<=1000000000):∀ (G S:List Nat) (k:Nat) (cs ss:List Nat),G.length=S.length->bs.drop k=Bf G S++rest->(∀g∈G,g<=rec)->(∀s∈S,s<=8388608)->EM rec bs G.length k 0 cs ss=(cs++G,ss++S,k+(Bf G S).length,0)
 | [],[],k,cs,ss,_,_,_,_=>by simp[EM,Bf]
 | [],_ :: _,_,_,_,h,_,_,_=>qU
 |_ :: _,[],_,_,_,h,_,_,_=>qU
 |g :: G,s :: S,k,cs,ss,hl,h,hg,hs=>by rw[Bf,AI,AI]at h;obtain⟨i1,i2,i3⟩:=G0 (most:=rec) h (hg g CG) hr;have h2:=Ey h;obtain⟨j1,j2,j3⟩:=G0 (most:=8388608) h2 (hs s CG) nj;rw[AD,EM,Aa qT,i1,i2,i3,j1,j2,j3,Sc hr G S _ _ _ (by simpa using hl) (Ey h2) (fun x hx=>hg x (Ce _ hx)) (fun x hx=>hs x (Ce _ hx))];rw[Bf,Ag,Ag,AI,AI];refine Prod.ext rfl (Prod.ext rfl (Prod.ext ?_ rfl));simp only;omega
theorem lF{y:Nat}{G S d:List Nat}(hd:d=Em n G S x y)(hn:n<=20000)(hl:G.length=S.length)(hG:G.length<=n)(hg:∀g∈G,g<=n)(hs:∀s∈S,s<=8388608)(hx:x<=8388608)(hy:y<=8388608):
 En d=n/\Do d=G/\Ed d=S/\dP d=x/\dQ d=y/\dE d=0:=by
 have e0:d.drop 0=gZ n++(gZ G.length++(Bf G S++(gZ x++(gZ y++ [])))):=by rw[hd,BX];rfl
 obtain⟨a1,a2,a3⟩:=G0 (most:=20000) e0 hn nj;have e1:=Ey e0;obtain⟨b1,b2,b3⟩:=G0 (most:=n) e1 hG nj;have e2:=Ey e1;have hp:=Sc (rec:=n) nj G S _ [] [] hl e2 hg hs;have e3:=Ey e2;obtain⟨c1,c2,c3⟩:=G0 (most:=8388608) e3 hx nj;have e4:=Ey e3;obtain⟨f1,f2,f3⟩:=G0 (most:=8388608) e4 hy nj;have e5:=Ey e4;have r1:En d=n:=a1;have r2:Hl d=G.length:=by unfold Hl;rw[r1,a2,a3,b1]
 have r3:Gm d=(G,S,0+(gZ n).length+(gZ G.length).length+(Bf G S).length,0):=by unfold Gm;rw[r1,r2,a2,a3,b2,b3,hp];rfl
 have r4:dPA d=0+(gZ n).length+(gZ G.length).length+(Bf G S).length+(gZ x).length:=by unfold dPA;rw[r3,c2]
 have r5:dPE d=0:=by unfold dPE;rw[r3,c3]
 refine⟨r1,by unfold Do;rw[r3],by unfold Ed;rw[r3],by unfold dP;rw[r3,c1],by unfold dQ;rw[r4,r5,f1],?_⟩;unfold dE;rw[r4,r5,f2,f3];unfold GL;rw[Aa];intro hk;have:=Az List.length e5;rw[AO,CX]at this;omega
theorem kG(h:x<4294967296):FE (CR x)=x:=by unfold FE CR;simp only[List.getD_eq_getElem?_getD,List.getElem?_cons_zero,List.getElem?_cons_succ,Option.getD_some];omega
theorem mF{P D:List Nat}(hl:ls=P++(D++CR D.length))(hD:D.length<4294967296):FD ls=D/\¬G6 ls/\Fu ls=P.length/\ls.take (Fu ls)=P:=by
 have h4:(CR D.length).length=4:=rfl;have hn:ls.length=P.length+D.length+4:=by rw[hl,Ag,Ag,h4];omega
 have hd:ls.drop (ls.length-4)=CR D.length:=by rw[hn,hl,<-AI,show P.length+D.length+4-4=(P++D).length by rw[Ag];omega,List.drop_left]
 have hv:FE (ls.drop (ls.length-4))=D.length:=by rw[hd,kG hD]
 have hr:Fu ls=P.length:=by unfold Fu;rw[hv,hn];omega
 refine⟨?_,?_,hr,by rw[hr,hl,List.take_left]⟩
 ·unfold FD;rw[hv,show ls.length-4-D.length=P.length by omega,hl,List.drop_left,List.take_left]
 ·unfold G6;rw[hv];omega
theorem WA:∀ (FS:List (List Nat)) (rest:List Nat),Dz (FS.map List.length) (FS.flatten++rest)=FS
 | [],_=>rfl
 |f :: FS,rest=>by rw[Cp,List.flatten_cons,Dz,AI,List.take_left,List.drop_left,WA FS rest]
theorem Wp(wh pl:Bool):∀ (C:List Nat) (l:List Rec) (k:Nat),k<C.length->(Cv wh pl C l).getD k []=Br (wZ wh ((l.drop (C.take k).sum).take (C.getD k 0))) pl
 | [],_,k,h=>qU
 |c :: C,l,0,_=>by simp[Cv]
 |c :: C,l,k+1,h=>by have ih:=Wp wh pl C (l.drop c) k ru;rw[Cv,List.getD_cons_succ,ih,List.take_succ_cons,GU,List.drop_drop,List.getD_cons_succ]
def strip(r:Rec):Rec:=⟨0,0,r.source,r.text⟩
theorem lL{bs rest:List Nat}{r:Rec}(h:bs.drop k=Da false r++rest)(hl:CE r=false):Ff bs k 0=(strip r,k+(Da false r).length,0):=by
 obtain⟨h1,h2⟩:=Ia hl;have q0:bs.drop k=BH r.source++(BH r.text++rest):=by rw[h];unfold Da Hp;simp
 have s1:Cr 4000 (bs.drop k)=(sB r.source,(BH r.source).length,0):=by rw[q0,UZ h1]
 have s2:Cr 4000 (bs.drop (k+(BH r.source).length))=(sB r.text,(BH r.text).length,0):=by rw[Ey q0,UZ h2]
 have z1:EP 4000 bs k 0=sB r.source:=by unfold EP;rw[Aa qT,s1]
 have z2:D9 4000 bs k 0=k+(BH r.source).length:=by unfold D9;rw[Aa qT,s1]
 have z3:D7 4000 bs k 0=0:=by unfold D7;rw[Aa qT,s1]
 have y1:EP 4000 bs (k+(BH r.source).length) 0=sB r.text:=by unfold EP;rw[Aa qT,s2]
 have y2:D9 4000 bs (k+(BH r.source).length) 0=k+(BH r.source).length+(BH r.text).length:=by unfold D9;rw[Aa qT,s2]
 have y3:D7 4000 bs (k+(BH r.source).length) 0=0:=by unfold D7;rw[Aa qT,s2]
 have i:(Da false r).length=(BH r.source).length+(BH r.text).length:=by unfold Da Hp;simp
 unfold Ff;simp only[z1,z2,z3,y1,y2,y3,Yb];rw[i];refine Prod.ext rfl (Prod.ext ?_ rfl);show k+_+_=k+_;omega
theorem V9{bs:List Nat}:∀ (l:List Rec) (f k:Nat) (i:List Rec),bs.drop k=wZ false l->k<=bs.length->bs.length<=f+k->(∀r∈l,Ci r)->(∀r∈l,CE r=false)->Jc f bs k i=(i++l.map strip,0)
 | [],f,k,i,h,hk,hf,_,_=>by
  have:(bs.drop k).length=0:=qo
  rw[AO]at this;rw[Re nj,FO,BX]
 |r :: l,f,k,i,h,hk,hf,hok,hl=>by
  have hh:bs.drop k=Da false r++wZ false l:=qo
  have h2:=(OR false (hok r qT) (hl r qT)).2;have j:=Az List.length hh;rw[Ag,AO]at j;obtain⟨f,rfl⟩:∃f',f=f'+1:=⟨f-1,nj⟩;rw[Jc,Aa nj,lL hh (hl r qT),Aa qT];simp only;rw[V9 l f _ _ (Ey hh) nj nj (fun x hx=>hok x rp) (fun x hx=>hl x rp)];simp
theorem RR{l:List Rec}(j:∀r∈l,Ci r):∀ (R:List Rec) (a:Nat),(∀i r,R[i]? =some r->l[a+i]? =some r)->DY (Bh l) (Bv l) a (R.map strip)=R
 | [],_,_=>rfl
 |r :: R,a,h=>by
  have h0:=h 0 r rfl;rw[Bi]at h0;obtain⟨t0,t1,t2,t3⟩:=j r (Be h0);have et:(Bh l).getD a 0=r.time.toNat:=by unfold Bh;rw[Am,BI,h0];rfl
  have el:(Bv l).getD a 0=r.level.toNat:=by unfold Bv;rw[Am,BI,h0];rfl
  rw[Cp,DY,RR j R (a+1) (fun i x hx=>by have:=h (i+1) x (by simpa using hx);rwa [show a+1+i=a+(i+1) by omega]),et,el,show((r.time.toNat:Nat):Int)=r.time by omega,show((r.level.toNat:Nat):Int)=r.level by omega];rfl
theorem nG{l:List Rec}(pl:Bool)(hC:C.sum=l.length)(j:∀r∈l,Ci r)(hl:∀r∈l,CE r=false)(hb:(wZ false l).length<=16000)(hk:k<C.length):
 Fc C (Cv false pl C l) k=0/\Gz C (Bh l) (Bv l) (Cv false pl C l) k=(l.drop (C.take k).sum).take (C.getD k 0):=by
 obtain⟨a,ha⟩:=ii ((C.take k).sum);obtain⟨c,hc⟩:=ii (C.getD k 0);have hF:=Wp false pl C l k hk;rw[<-ha,<-hc]at hF;have z:a+c<=l.length:=by have h1:=O9 hk;have h2:=Lg C (k+1);rw[<-ha,<-hc]at h1;omega
 have h:∀r∈(l.drop a).take c,r∈l:=fun r hr=>Ck (Dc hr);have y:((l.drop a).take c).length=c:=by rw[Ba,AO];omega
 have E:(wZ false ((l.drop a).take c)).length<=16000:=by have h1:=L9 false l a;have h2:=L9 false (l.drop a) c;omega
 obtain⟨f1,f2,f3⟩:=RJ (bs:=wZ false ((l.drop a).take c)) pl [] (Om false (fun r hr=>j r (h r hr))) nj;rw[BX]at f1 f2 f3;have hr:Gs (wZ false ((l.drop a).take c))=(((l.drop a).take c).map strip,0):=by unfold Gs;rw[V9 ((l.drop a).take c) _ 0 [] qT nj nj (fun r hr=>j r (h r hr)) (fun r hr=>hl r (h r hr))];rfl
 have hE:Fc C (Cv false pl C l) k=0:=by unfold Fc;rw[hF,f1,f2,f3,hr,Aa qT,Aa qT,Aa qT,<-hc,Aa];simp only[List.length_map];omega
 refine⟨hE,?_⟩;unfold Gz;rw[Ab hE,hF,f2,hr,<-ha,<-hc];refine RR j _ a fun i r hi=> ?_;rw[Gg]at hi;split at hi
 ·rw[GB]at hi;exact hi
 ·cases hi
theorem TI{C:List Nat}{l:List Rec}(pl:Bool)(hC:C.sum=l.length)(i:∀r∈l,Ci r)(hl:∀r∈l,CE r=false)(hb:(wZ false l).length<=16000):∀ (m k:Nat) (h:List Rec),k+m=C.length->h=l.take (C.take k).sum->FW C (Bh l) (Bv l) (Cv false pl C l) m k h=(l,0)
 |0,k,h,hk,ha=>by
  obtain rfl:k=C.length:=nj
  rw[FW,ha,List.take_length,hC,List.take_length]
 |m+1,k,h,hk,ha=>by obtain⟨h1,h2⟩:=nG pl hC i hl hb (k:=k) nj;rw[FW,h1,Aa qT,h2,TI pl hC i hl hb m (k+1) _ nj];rw[ha,O9 nj,List.take_add]
theorem jO{l:List Rec}(pl:Bool)(hC:C.sum=l.length)(h:∀r∈l,Ci r)(hk:CJ l=0)(hb:(wZ false l).length<=16000):
 Hm C (Bh l) (Bv l) (Cw l) (Cv false pl C l)=0/\Jw C (Bh l) (Bv l) (Cw l) (Cv false pl C l)=l:=by
 have hg:=TI pl hC h (JA hk) hb C.length 0 [] nj qT;have hE:Hm C (Bh l) (Bv l) (Cw l) (Cv false pl C l)=0:=by unfold Hm;rw[LD,hg];unfold MJ;rw[Aa qT,hk,Aa qT,Ab (by simp[eqX])]
 refine⟨hE,?_⟩;unfold Jw;rw[Ab hE,LD,hg]
theorem kO{o:Opt}{l:List Rec}(ho:CI o=0)(_au:CJ l=0)(ag:∀r∈l,Ci r)(hb:(wZ false l).length<=16000)(hT:(AQ (l.map kZ)).length<=1048576)(am:(ixR o l).length<=99000)(hn:l.length<=1000):
 Ip o (Cy o l)=0/\Do (DJ (Cy o l))=Cb o l/\Ed (DJ (Cy o l))=(Cv false o.plain (Cb o l) l).map List.length/\oN (Cy o l)=l.length/\Ek l.length (Bk (Is (Cy o l)))=(Bh l,Bv l,(Di l).length,0)/\
  Idx.ixR o.bucket.toNat l.length (Bk (Ir (Cy o l)))=(Cw l,0)/\Dz (Ed (DJ (Cy o l))) ((Cy o l).take (Fu (Cy o l)))=Cv false o.plain (Cb o l) l:=by
 obtain⟨ls,ac⟩:=ii (Cy o l);rw[<-ac];have j:=Lk o l;have aj:=MN o l;have ae:∀x∈Cb o l,1<=x:=L8 _ _;obtain⟨C,hC⟩:=ii (Cb o l);obtain⟨FS,J⟩:=ii (Cv false o.plain C l);rw[<-hC]at j aj ae ⊢;rw[<-J];have ak:FS.length=C.length:=by rw[J,LD]
 have an:FS.flatten.length<=(wZ false l).length+25*C.length:=by rw[J];exact Lo false o.plain C l hb
 have al:=Ml ag nj;obtain⟨X,hX⟩:=ii (AW (ixR o l));obtain⟨K,hK⟩:=ii (AW (Di l));have aq:X.length=(ixR o l).length+4:=by rw[hX,Dx]
 have ar:K.length=(Di l).length+4:=by rw[hK,Dx]
 obtain⟨d,hd⟩:=ii (Em l.length C (FS.map List.length) K.length X.length);have af:ls=(FS.flatten++(K++X))++(AW d++CR (AW d).length):=by rw[ac];unfold Cy zY;rw[<-hC,<-J,<-hX,<-hK,<-hd];simp only[List.append_assoc]
 have hS:∀s∈FS.map List.length,s<=FS.flatten.length:=fun s hs=>by rw[List.length_flatten];exact I8 hs
 have Z:(FS.map List.length).sum=FS.flatten.length:=List.length_flatten.symm;have ah:∀g∈C,g<=l.length:=fun g hg=>by rw[<-j];exact I8 hg
 have ai:=Qe (n:=l.length) (G:=C) (S:=FS.map List.length) (x:=K.length) (y:=X.length) nj nj (fun z hz=>by have:=ah z hz;omega) (fun z hz=>by have:=hS z hz;omega) nj nj;rw[<-hd]at ai;obtain⟨p1,p2,p3,p4⟩:=mF af (by rw[Dx];omega);obtain⟨q1,q2,q3,q4,q5,q6⟩:=lF hd nj (by rw[Bc,ak]) nj ah (fun s hs=>by have:=hS s hs;omega) nj nj;have hcut:CM (AW d)=0/\Bk (AW d)=d:=Pw d;have i:DJ ls=d:=by unfold DJ;rw[p1];exact hcut.2
 have hN:oN ls=l.length:=by unfold oN;rw[i,q2,j]
 have N:Is ls=K:=by unfold Is;rw[p4,i,q3,q4,Z,List.drop_left,List.take_left]
 have L:Ir ls=X:=by unfold Ir;rw[p4,i,q3,q4,Z,<-List.drop_drop,List.drop_left,List.drop_left]
 have ab:CM K=0/\Bk K=Di l:=by rw[hK];exact Pw _
 have U:CM X=0/\Bk X=ixR o l:=by rw[hX];exact Pw _
 have E:=ZQ ag nj;obtain⟨_,_,b3,b4⟩:=Ms ho;have M:=Lu l;have Q:Idx.ixR o.bucket.toNat l.length (ixR o l)=(Cw l,0):=by unfold ixR Cw;exact TX nj nj nj (Lm hT) (by rw[Bc]) M.1 (fun x hx=>(M.2 x hx).1)
 refine⟨?_,by rw[i,q2],by rw[i,q3],hN,by rw[N,ab.2,E],by rw[L,U.2,Q],by rw[i,q3,p4,WA]⟩;have Y:Iw l.length K=0:=by unfold Iw;rw[ab.1,ab.2,E,Aa qT,Aa qT,Aa qT]
 have aa:Gl (Fu ls) d=0:=by
  unfold Gl;rw[q6,q2,q1,q3,q4,q5,p3,Aa qT,Aa];rintro(h|h|h)
  ·have:=ae 0 h;omega
  ·exact h j
  ·rw[Z,Ag,Ag]at h;omega
 unfold Ip opnF opnD opnC opnI;rw[ho,p1,hcut.1,i,aa,hN,N,Y,L,U.1,U.2,Q,Aa qT,Aa p2];simp
end Body
namespace Idx
open NumPut Sift
def Bx(l:List Str):Nat:=(l.map fun s=>s.length+1).sum
theorem He(s:Str)(l:List Str):Bx (s :: l)=s.length+1+Bx l:=by simp[Bx]
theorem OY(a b:List Str):Bx (a++b)=Bx a+Bx b:=by simp[Bx]
theorem Rx(row:List UInt8):Bx (tell row)<=row.length+1:=by
 unfold tell;split
 ·simp[Bx]
 ·simp[Bx];omega
theorem Ou:∀ (l row:List UInt8),Bx (split row l)<=row.length+l.length+1
 | [],row=>by rw[split];simpa using Rx row
 |c :: t,row=>by
  rw[split];split
  ·have:=Ou t (row++ [Ez c]);simp at this ⊢;omega
  ·have h1:=Ou t [];have h2:=Rx row;rw[OY];simp at h1 ⊢;omega
theorem Wm(l:List UInt8):Bx (words l)<=l.length+1/\2*(words l).length<=l.length+1:=by
 have h:=Ou l []
 have h2:∀m:List Str,(∀s∈m,1<=s.length)->2*m.length<=Bx m:=fun m=>by
  induction m with
  |nil=>intro _;simp[Bx]
  |cons s m ih=>intro hs;have a:=ih (fun x hx=>hs x (Ce _ hx));have b:=hs s CG;rw[He,AD];omega
 have h3:=h2 (words l) (fun s hs=>(Lr l [] s hs).1);have h4:Bx (words l)<=l.length+1:=by unfold words;simpa using h
 exact⟨h4,nj⟩
theorem Rk(s:Str):∀l,Bx (C9 l s)<=Bx l+s.length+1
 | []=>by simp[C9,Bx]
 |x :: t=>by
  have:=Rk s t;rw[C9];split
  ·rw[He,He];omega
  ·split<;>simp only[He]<;>omega
theorem Oj:∀ (l h:List Str),Bx (xZ h l)<=Bx h+Bx l
 | [],h=>by simp[xZ,Bx]
 |x :: t,h=>by have h1:=Oj t (C9 h x);have h2:=Rk x h;unfold xZ at h1 ⊢;rw[List.foldl_cons,He];omega
theorem Vh:∀m:List Str,Bx (m.map (Er :: ·))=Bx m+m.length
 | []=>rfl
 |s :: m=>by rw[Cp,He,Vh m,He,AD,AD];omega
theorem i7(t s:List UInt8):2*Bx (FV t s)<=2*t.length+3*s.length+5:=by have h1:=Oj (GY t s) [];have h2:=Wm t;have h3:=Wm s;have h4:=Vh (words s);unfold FV;unfold GY at h1 ⊢;rw[OY]at h1;simp only[Bx,List.map_nil,List.sum_nil]at h1 h2 h3 h4 ⊢;omega
theorem Q7:∀ (ts:List (List Str)) (h:List Str),Bx (ts.foldl xZ h)<=Bx h+(ts.map Bx).sum
 | [],h=>qT
 |t :: ts,h=>by have h1:=Q7 ts (xZ h t);have h2:=Oj t h;rw[List.foldl_cons,Cp,GU];omega
theorem V6:∀ (t:List Str) (i:Str),i.length<=25->(∀s∈t,s.length<=25)->(El i t).length<=Bx t+t.length
 | [],_,_,_=>by simp[El]
 |x :: t,i,hw,h=>by
  have hx:=h x CG;have ih:=V6 t x hx (fun s hs=>h s (Ce _ hs));have ha:=LG i x;have hd:(De (x.drop (Bq i x))).length<=1+x.length:=by unfold De Hn;rw[Ag,Bc,Kt oi,AO];omega
  rw[El,Ag,Ag,Kt nj,He,AD];omega
theorem bE{c:List Str}(h:∀s∈c,s.length<=25):(tZ c).length<=Bx c+c.length:=by
 cases c with
 |nil=>simp[tZ]
 |cons x t=>
  have hx:=h x CG;have ih:=V6 t x hx (fun s hs=>h s (Ce _ hs));have hd:(De x).length=1+x.length:=by unfold De Hn;rw[Ag,Bc,Kt nj]
  rw[tZ,Ag,He,AD];omega
theorem Wc{size:Nat}(h1:1<=size)(h2:size<=64):∀ (f:Nat) (l:List Str),(∀s∈l,s.length<=25)->((Dq size f l).flatMap tZ).length<=Bx l+l.length/\((Dq size f l).flatMap fun c=>gZ (tZ c).length).length<=2*l.length
 |0,l,_=>by simp[Dq]
 |f+1,l,h=>by
  rw[Dq];split
  ·simp
  ·rename_i e;have hp:1<=l.length:=FP.2 e;obtain⟨a,b⟩:=Wc h1 h2 f (l.drop size) (fun s hs=>h s (Ck hs));have ht:∀s∈l.take size,s.length<=25:=fun s hs=>h s (Dc hs);have c:=bE ht;have d:=MZ (l:=l.take size) ht;have g:(gZ (tZ (l.take size)).length).length<=2:=Block.Im (by rw[Ba]at d;omega);have k:Bx l=Bx (l.take size)+Bx (l.drop size):=(by rw[<-OY,EV]);rw[AO]at a b;rw[Ba]at c;rw[Cu,Cu,Ag,Ag];constructor<;>omega
theorem iW{size:Nat}{l:List Str}(h1:1<=size)(h2:size<=64)(h:∀s∈l,s.length<=25)(hl:l.length<=1000000):(Dh size l).length<=10+Bx l+3*l.length:=by obtain⟨a,b⟩:=Wc h1 h2 l.length l h;have c:=sZ (x:=l.length) nj;unfold Dh GQ;rw[Ag,Ag];omega
end Idx
namespace Body
open NumPut Recs Opts Idx Go.Proofs.YtfgdoknipbpfhaaGreatDoor.One
open Ef (efO Cj efW Hh FH Hs)
open Huff (bytesOf_length)
theorem iA{bound:Nat}{l:List Nat}(hb:bound<=60)(hm:Cj bound none l=true)(h0:l≠ [])(hn:l.length<=bound):(efO bound l).length<=24:=by
 have h:=SF nj hm h0 hn;have h1:efO bound l=gZ l.length++Huff.bytesOf (FH (efW bound l.length) l):=Aa h0;have h2:1<=l.length:=FP.2 h0;have hq:1<=bound / l.length:=(Nat.one_le_div_iff nj).2 hn;have hW:l.length*efW bound l.length<=bound:=jz
 have i:=Hh (efW bound l.length) l;have z:=Hs bound l none hm;have hp:=(NI bound l none hm).1;have j:=NL (l.map (·/ 2 ^ efW bound l.length)) 0 bound (CA _) (fun x hx=>by obtain⟨y,hy,rfl⟩:=Co.1 hx;exact⟨CA _,AN (Hw _ _) (by have:=z y hy;omega)⟩) (List.Pairwise.map _ (fun a b h=>Nat.div_le_div_right h) hp);rw[Bc]at j;rw[h1,Ag,Kt nj,bytesOf_length];unfold FH;rw[Ag,i];omega
theorem VJ:∀l:List Rec,2*((((l.map kZ).map Bx).sum:Nat):Int)<=3*Bm l
 | []=>by simp[J3]
 |r :: l=>by
  have ih:=VJ l;have e:Bm (r :: l)=weigh r+Bm l:=qX
  have h:=i7 r.text.data.toList r.source.data.toList;have h1:r.text.data.toList.length=r.text.size:=Array.length_toList;have h2:r.source.data.toList.length=r.source.size:=Array.length_toList;rw[h1,h2]at h;have h3:2*Bx (kZ r)<=2*r.text.size+3*r.source.size+5:=h;rw[Cp,Cp,GU,e];unfold weigh;omega
theorem WU{l:List Rec}(h:∀r∈l,Ci r)(hl:∀r∈l,CE r=false):((wZ false l).length:Int)<=Bm l:=by
 induction l with
 |nil=>simp[wZ,J3]
 |cons r l ih=>
  have ih:=ih (fun x hx=>h x (Ce _ hx)) (fun x hx=>hl x (Ce _ hx));have e:Bm (r :: l)=weigh r+Bm l:=qX
  obtain⟨q1,q2⟩:=Ia (hl r CG);have a:(BH r.source).length<=2+r.source.size:=by unfold BH;rw[Ag,LO];have:=Block.Im (x:=r.source.size) nj;omega
  have b:(BH r.text).length<=2+r.text.size:=by unfold BH;rw[Ag,LO];have:=Block.Im (x:=r.text.size) nj;omega
  have c:wZ false (r :: l)=Da false r++wZ false l:=rfl;have d:Da false r=BH r.source++BH r.text:=rfl;rw[c,d,e,Ag,Ag];unfold weigh;omega
theorem OQ:∀ (l:List Int) (a:Int),(∀x∈l,0<=x)->a<=l.foldl (·+ ·) a
 | [],a,_=>qT
 |x :: l,a,h=>by have:=OQ l (a+x) (fun y hy=>h y (by simp[hy]));have:=h x qT;rw[List.foldl_cons];omega
theorem fX{l:List Rec}{r:Rec}(hr:r∈l):weigh r<=Bm l:=by
 obtain⟨a,b,rfl⟩:=List.append_of_mem hr;have hp:∀x∈(List.map weigh b),0<=x:=fun x hx=>by obtain⟨y,_,rfl⟩:=Co.1 hx;unfold weigh;omega
 have hq:∀x∈(List.map weigh a),0<=x:=fun x hx=>by obtain⟨y,_,rfl⟩:=Co.1 hx;unfold weigh;omega
 have h1:=OQ _ 0 hq;have h2:=OQ _ ((List.map weigh a).foldl (·+ ·) 0+weigh r) hp;unfold Bm;rw[EW,Cp,List.foldl_append,List.foldl_cons];omega
theorem Wz{l:List Rec}(hn:(l.length:Int)<=60)(hw:Bm l<=4000):CJ l=0:=by
 have i:¬l.any CE=true:=by intro h;obtain⟨r,hr,hl⟩:=List.any_eq_true.1 h;have:=fX hr;unfold weigh at this;unfold CE at hl;simp at hl;omega
 unfold CJ;rw[Aa nj,Aa i,Aa nj]
theorem iG{o:Opt}{l:List Rec}(ho:CI o=0)(h1:l.length<=60)(h2:Bm l<=4000)(j:∀r∈l,Ci r)(hk:CJ l=0):
 (AQ (l.map kZ)).length<=20000/\(ixR o l).length<=99000/\(wZ false l).length<=16000/\(Cy o l).length<=99000:=by
 have hw:=VJ l;have hs:Bx (AQ (l.map kZ))<=6000:=by have:=Q7 (l.map kZ) [];have e:Bx ([]:List Str)=0:=rfl;unfold AQ;omega
 have hn:2*(AQ (l.map kZ)).length<=Bx (AQ (l.map kZ)):=by
  have h:=Lm (l:=l) (by have:=K8 l;have:=Nq (l.map kZ);omega)
  have h3:∀m:List Str,(∀s∈m,1<=s.length)->2*m.length<=Bx m:=fun m=>by
   induction m with
   |nil=>intro _;simp[Bx]
   |cons s m ih=>intro hs;have a:=ih (fun x hx=>hs x (Ce _ hx));have b:=hs s CG;rw[He,AD];omega
  exact h3 _ (fun s hs=>(Jv h s hs).1)
 have h:=Lm (l:=l) nj;obtain⟨_,_,b3,b4⟩:=Ms ho;have i:=Lu l;have hd:=iW (size:=o.bucket.toNat) (l:=AQ (l.map kZ)) nj nj (fun s hs=>(Jv h s hs).2) nj;have hl:=ON (bound:=l.length) (C:=24) (ls:=(AQ (l.map kZ)).map (BK (l.map kZ))) (fun x hx=>by have h3:=i.2 x hx;exact iA h1 (Gh.1 i.1 x hx) h3.1 h3.2);rw[Bc]at hl;have hx:(ixR o l).length<=88000:=by unfold ixR ixO;rw[Ag];omega
 have hb:=WU j (JA hk);refine⟨nj,nj,nj,?_⟩;have M:=MN o l;have N:=Lk o l;have L:=Lo false o.plain (Cb o l) l nj;have J:=Ml j nj;have hF:∀s∈(Cv false o.plain (Cb o l) l).map List.length,s<=(Cv false o.plain (Cb o l) l).flatten.length:=fun s hs=>by rw[List.length_flatten];exact I8 hs
 have E:=Qe (n:=l.length) (G:=Cb o l) (S:=(Cv false o.plain (Cb o l) l).map List.length) (x:=(AW (Di l)).length) (y:=(AW (ixR o l)).length) nj nj (fun z hz=>by have:=I8 hz;omega) (fun z hz=>by have:=hF z hz;omega) (by rw[Dx];omega) (by rw[Dx];omega);unfold Cy zY;simp only[List.length_append];rw[Dx,Dx,Dx];have h4:∀z,(CR z).length=4:=fun _=>rfl;rw[h4];rw[Dx,Dx]at E;omega
end Body
namespace Body
open Go.RowKit Mem Go.Proofs.YtfgdoknipbpfhaaGreatDoor.Own Canon Nums Recs Opts
open Crc (TabAt)
open Idx (Str IxAt AQ kZ)
structure Small (o:Opt) (l:List Rec):Prop where
 ob:CI o=0
 n:l.length<=60
 ck:CJ l=0
 ok:∀r∈l,Ci r
 t:(AQ (l.map kZ)).length<=20000
 x:(ixR o l).length<=99000
 b:(wZ false l).length<=16000
 m:(Cy o l).length<=99000
theorem Small.of{o:Opt}{l:List Rec}(ho:CI o=0)(h1:(l.length:Int)<=60)(h2:Bm l<=4000)(h:∀r∈l,Ci r):Small o l:=by have hk:=Wz h1 h2;obtain⟨a,b,c,d⟩:=iG ho nj h2 h hk;exact⟨ho,nj,hk,h,a,b,c,d⟩
def FR(o:Opt)(l:List Rec):List (List Nat):=Cv false o.plain (Cb o l) l
theorem fD{o:Opt}{l:List Rec}(h:∀r∈l,Ci r):∀x∈Cy o l,x<=255:=Sr (On false o.plain _ l h) (VB h) (TV o l)
theorem Small.all{o:Opt}{l:List Rec}(h:Small o l):(Cb o l).length=(FR o l).length/\(Bh l).length=(Cb o l).sum/\(Bv l).length=(Cb o l).sum/\(∀f∈FR o l,f.length<=100000/\∀x∈f,x<=255)/\(Cb o l).sum<=20000/\(FR o l).length<=20000:=by have hs:=Lk o l;have hc:=MN o l;have hn:=h.n;have hf:=LD false o.plain (Cb o l) l;have i:=Lo false o.plain (Cb o l) l h.b;have hb:=h.b;refine⟨hf.symm,by unfold Bh;rw[Bc,hs],by unfold Bv;rw[Bc,hs],fun f hf=>⟨?_,fun x hx=>On false o.plain (Cb o l) l h.ok x (List.mem_flatten.2 ⟨f,hf,hx⟩)⟩,nj,by unfold FR;omega⟩;have h1:f.length<=((FR o l).map List.length).sum:=I8 (Co.2 ⟨f,hf,rfl⟩);rw[<-List.length_flatten]at h1;unfold FR at h1;omega
theorem Small.ix{o:Opt}{l:List Rec}(h:Small o l):(Cw l).1.length<=20000/\(Cw l).2.length<=20000/\∀x∈(Cw l).2,x.length<=20000:=by have ht:=h.t;have hn:=h.n;refine⟨ht,by unfold Cw;simp only;rw[Bc];exact ht,fun x hx=> ?_⟩;have:=((Lu l).2 x hx).2;omega
def OI(o:Opt)(l:List Rec)(w:World)(e:Ending)(w':World):Prop:=
 ∃gb,e= .returned (.tuple #[.pointer (some ⟨gb,0,none⟩),ij])/\BodyAt w' w gb (Cb o l) ((FR o l).map List.length) (Bh l) (Bv l) (Cw l) (FR o l) (List.replicate (FR o l).length false)/\Below w w w'
theorem mK(w:World)(o:Opt)(A:Option Addr)(n c:Nat)(l:List Rec)(h:Small o l)(hn:(Cy o l).length=n)(hc:n<=c)(i:A=none->n=0/\c=0)(ht:TabAt w)(ha:Row w w A n 1 (jZ .u8 (Cy o l))):
 Calls Tryz.prog 13 #[o.val, .slice A n c] w (OI o l w):=by
 obtain⟨e0,e1,e2,e3,e4,e5,e6⟩:=kO h.ob h.ck h.ok h.b (by have:=h.t;omega) h.x (by have:=h.n;omega);refine(lM w o A n c (Cy o l) hn (by have:=h.m;omega) hc (fD h.ok) i ht ha).mono ?_;rintro e w' ⟨hb,_,j⟩;obtain⟨gb,rfl,hB⟩:=j e0;rw[e3,e4,e5,e6,e1,e2,Bc]at hB;exact⟨gb,rfl,hB,hb⟩
end Body
namespace Body
open Go.RowKit Mem Go.Proofs.YtfgdoknipbpfhaaGreatDoor.Own Canon Nums Recs Opts
open Crc (TabAt Bk CM)
open Go.Proofs.YtfgdoknipbpfhaaGreatDoor.Open (Ij)
open Idx (Str IxAt OC OT Kc)
open Huff (Pe)
theorem dX{i:List Nat}(h:w.ownsRow base 3 1 (.slice A n c) n (cZ .i64 i))(hn:i.length=n):Row w w A n 1 (Ij .i64 (i.map Int.ofNat)):=Idx.own_ints h hn
theorem Z2(h:w.ownsRow base 5 1 (.slice A n c) n (cZ .u8 ls))(hn:ls.length=n):Row w w A n 1 (jZ .u8 ls):=by subst hn;exact own_row h
end Body
namespace Body
open Go.RowKit Mem Go.Proofs.YtfgdoknipbpfhaaGreatDoor.Own Canon Nums Recs Opts
open Crc (TabAt)
def RG(F:List (List Nat))(i:Int):Prop:=0<=i/\i<(F.length:Int)
instance (F:List (List Nat)) (i:Int):Decidable (RG F i):=by unfold RG;infer_instance
end Body
end Go.Proofs.YtfgdoknipbpfhaaGreatDoor
