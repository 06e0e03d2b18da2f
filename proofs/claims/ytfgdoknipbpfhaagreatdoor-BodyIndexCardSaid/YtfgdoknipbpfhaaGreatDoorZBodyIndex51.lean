/- The example of chapt -/
import Derived.Test.YtfgdoknipbpfhaaGreatDoorZBodyIndex48
import Derived.Test.YtfgdoknipbpfhaaGreatDoorZBodyIndex49
import Derived.Test.YtfgdoknipbpfhaaGreatDoorZBodyIndex47
namespace Go.Proofs.YtfgdoknipbpfhaaGreatDoor
open Go.Proofs.Tryz
open Go.Lib (hid)
set_option maxHeartbeats 4000000
set_option maxRecDepth 100000
section
variable{k n x:Nat}{C G ls:List Nat}
namespace Body
open Go.RowKit Mem Go.Proofs.YtfgdoknipbpfhaaGreatDoor.Own Canon NumPut Crc
open Recs Opts Idx
open Block (wZ)
theorem eN{o:Opt}(h:De o≠0):De o=9:=kQ h
theorem O5(wh pl:Bool):∀ (cs:List Nat) (l:List Rec),(∀r∈l,CA r)->∀x∈(BV wh pl cs l).flatten,x<=255
 | [],_,_=>by simp[BV]
 |c :: t,l,h=>by
  intro x hx;rw[BV,List.flatten_cons]at hx;rcases Bx.1 hx with hx|hx
  ·have h8:=Pv wh (l:=l.take c) (fun r hr=>h r (CN hr));generalize Bi wh (l.take c)=bs at *;unfold Block.Cs Block.Do Block.IK at hx;simp only[List.mem_append,List.mem_singleton]at hx;rcases hx with (((rfl|hx)|hx)|hx)|hx
   ·unfold Block.FJ;split<;>omega
   ·exact Ev _ x hx
   ·exact Ev _ x hx
   ·unfold Block.CD at hx;split at hx
    ·exact Block.SO _ x hx
    ·exact h8 x hx
   ·have:=S4 _ x hx;omega
  ·exact O5 wh pl t _ (fun r hr=>h r (Cg hr)) x hx
theorem eD(x:Nat):∀y∈Cn x,y<=255:=fun y h=>by unfold Cn at h;simp only[List.mem_cons,List.not_mem_nil,or_false]at h;rcases h with rfl|rfl|rfl|rfl<;>omega
theorem QL{FS:List (List Nat)}{h i:List Nat}(h1:∀x∈FS.flatten,x<=255)(h2:∀x∈h,x<=255)(h3:∀x∈i,x<=255):∀x∈CH n G FS h i,x<=255:=fun x hx=>by
 unfold CH at hx;simp only[List.mem_append]at hx;rcases hx with hx|hx|hx|hx|hx
 ·exact h1 x hx
 ·exact PG h2 x hx
 ·exact PG h3 x hx
 ·exact PG (LP _ _ _ _ _) x hx
 ·exact eD _ x hx
def exB:Opt:=⟨16,false,1,0,0,0⟩
theorem dH:H4 exB []=CH 0 [] [] [] [0]:=by
 have h1:ixR exB []= [0]:=by unfold ixR ixO BI CO;simp[AW,GR,Ee,Fe]
 have h2:tZ exB []= []:=rfl;have h3:BW ([]:List Rec)= []:=by unfold BW;simp[Bo,xZ,Cr,lvB]
 unfold H4;rw[h1,h2,h3];rfl
end Body
namespace Body
open NumPut Nums Go.Proofs.YtfgdoknipbpfhaaGreatDoor.One Recs Opts Crc
open Idx (AW BP jZ EC CV Nc Cn eqX)
open Block (Cs opE opO opA Pw)
theorem Qy{bs rest:List Nat}{rec:Nat}(hr:rec<=1000000000):∀ (G S:List Nat) (k:Nat) (cs ss:List Nat),G.length=S.length->bs.drop k=Bf G S++rest->(∀g∈G,g<=rec)->(∀s∈S,s<=8388608)->Fa rec bs G.length k 0 cs ss=(cs++G,ss++S,k+(Bf G S).length,0)
 | [],[],k,cs,ss,_,_,_,_=>by simp[Fa,Bf]
 | [],_ :: _,_,_,_,h,_,_,_=>pS
 |_ :: _,[],_,_,_,h,_,_,_=>pS
 |g :: G,s :: S,k,cs,ss,hl,h,hg,hs=>by rw[Bf,AK,AK]at h;obtain⟨i1,i2,i3⟩:=G3 (most:=rec) h (hg g CP) hr;have h2:=ES h;obtain⟨j1,j2,j3⟩:=G3 (most:=8388608) h2 (hs s CP) nB;rw[AI,Fa,Ae pR,i1,i2,i3,j1,j2,j3,Qy hr G S _ _ _ (by simpa using hl) (ES h2) (fun x hx=>hg x (Cm _ hx)) (fun x hx=>hs x (Cm _ hx))];rw[Bf,Aj,Aj,AK,AK];refine Prod.ext rfl (Prod.ext rfl (Prod.ext ?_ rfl));simp only;omega
theorem Wj{y:Nat}{S d:List Nat}(hd:d=Dv n G S x y)(hn:n<=20000)(hl:G.length=S.length)(hG:G.length<=n)(hg:∀g∈G,g<=n)(hs:∀s∈S,s<=8388608)(hx:x<=8388608)(hy:y<=8388608):
 EB d=n/\Ed d=G/\Er d=S/\dP d=x/\dQ d=y/\dE d=0:=by
 have e0:d.drop 0=gZ n++(gZ G.length++(Bf G S++(gZ x++(gZ y++ [])))):=by rw[hd,Cx];rfl
 obtain⟨a1,a2,a3⟩:=G3 (most:=20000) e0 hn nB;have e1:=ES e0;obtain⟨b1,b2,b3⟩:=G3 (most:=n) e1 hG nB;have e2:=ES e1;have hp:=Qy (rec:=n) nB G S _ [] [] hl e2 hg hs;have e3:=ES e2;obtain⟨c1,c2,c3⟩:=G3 (most:=8388608) e3 hx nB;have e4:=ES e3;obtain⟨f1,f2,f3⟩:=G3 (most:=8388608) e4 hy nB;have e5:=ES e4;have r1:EB d=n:=a1;have r2:Hx d=G.length:=by unfold Hx;rw[r1,a2,a3,b1]
 have r3:Gu d=(G,S,0+(gZ n).length+(gZ G.length).length+(Bf G S).length,0):=by unfold Gu;rw[r1,r2,a2,a3,b2,b3,hp];rfl
 have r4:dPA d=0+(gZ n).length+(gZ G.length).length+(Bf G S).length+(gZ x).length:=by unfold dPA;rw[r3,c2]
 have r5:dPE d=0:=by unfold dPE;rw[r3,c3]
 refine⟨r1,by unfold Ed;rw[r3],by unfold Er;rw[r3],by unfold dP;rw[r3,c1],by unfold dQ;rw[r4,r5,f1],?_⟩;unfold dE;rw[r4,r5,f2,f3];unfold GV;rw[Ae];intro hk;have:=AM List.length e5;rw[AZ,Ea]at this;omega
theorem mK(h:x<4294967296):FP (Cn x)=x:=by unfold FP Cn;simp only[List.getD_eq_getElem?_getD,List.getElem?_cons_zero,List.getElem?_cons_succ,Option.getD_some];omega
theorem dN{P D:List Nat}(hl:ls=P++(D++Cn D.length))(hD:D.length<4294967296):FT ls=D/\¬Hc ls/\FM ls=P.length/\ls.take (FM ls)=P:=by
 have h4:(Cn D.length).length=4:=rfl;have hn:ls.length=P.length+D.length+4:=by rw[hl,Aj,Aj,h4];omega
 have hd:ls.drop (ls.length-4)=Cn D.length:=by rw[hn,hl,<-AK,show P.length+D.length+4-4=(P++D).length by rw[Aj];omega,List.drop_left]
 have hv:FP (ls.drop (ls.length-4))=D.length:=by rw[hd,mK hD]
 have hr:FM ls=P.length:=by unfold FM;rw[hv,hn];omega
 refine⟨?_,?_,hr,by rw[hr,hl,List.take_left]⟩
 ·unfold FT;rw[hv,show ls.length-4-D.length=P.length by omega,hl,List.drop_left,List.take_left]
 ·unfold Hc;rw[hv];omega
theorem UG:∀ (FS:List (List Nat)) (rest:List Nat),Ek (FS.map List.length) (FS.flatten++rest)=FS
 | [],_=>rfl
 |f :: FS,rest=>by rw[CE,List.flatten_cons,Ek,AK,List.take_left,List.drop_left,UG FS rest]
theorem Uv(wh pl:Bool):∀ (C:List Nat) (l:List Rec) (k:Nat),k<C.length->(BV wh pl C l).getD k []=Cs (Bi wh ((l.drop (C.take k).sum).take (C.getD k 0))) pl
 | [],_,k,h=>pS
 |c :: C,l,0,_=>by simp[BV]
 |c :: C,l,k+1,h=>by have ih:=Uv wh pl C (l.drop c) k qh;rw[BV,List.getD_cons_succ,ih,List.take_succ_cons,GH,List.drop_drop,List.getD_cons_succ]
def strip(r:Rec):Rec:=⟨0,0,r.source,r.text⟩
theorem cD{bs rest:List Nat}{r:Rec}(h:bs.drop k=CT false r++rest)(hl:Cc r=false):Fq bs k 0=(strip r,k+(CT false r).length,0):=by
 obtain⟨h1,h2⟩:=Hp hl;have q0:bs.drop k=BY r.source++(BY r.text++rest):=by rw[h];unfold CT Ia;simp
 have s1:Cz 4000 (bs.drop k)=(sB r.source,(BY r.source).length,0):=by rw[q0,Tc h1]
 have s2:Cz 4000 (bs.drop (k+(BY r.source).length))=(sB r.text,(BY r.text).length,0):=by rw[ES q0,Tc h2]
 have z1:Fc 4000 bs k 0=sB r.source:=by unfold Fc;rw[Ae pR,s1]
 have z2:Et 4000 bs k 0=k+(BY r.source).length:=by unfold Et;rw[Ae pR,s1]
 have z3:Es 4000 bs k 0=0:=by unfold Es;rw[Ae pR,s1]
 have y1:Fc 4000 bs (k+(BY r.source).length) 0=sB r.text:=by unfold Fc;rw[Ae pR,s2]
 have y2:Et 4000 bs (k+(BY r.source).length) 0=k+(BY r.source).length+(BY r.text).length:=by unfold Et;rw[Ae pR,s2]
 have y3:Es 4000 bs (k+(BY r.source).length) 0=0:=by unfold Es;rw[Ae pR,s2]
 have i:(CT false r).length=(BY r.source).length+(BY r.text).length:=by unfold CT Ia;simp
 unfold Fq;simp only[z1,z2,z3,y1,y2,y3,iW];rw[i];refine Prod.ext rfl (Prod.ext ?_ rfl);show k+_+_=k+_;omega
theorem Uh{bs:List Nat}:∀ (l:List Rec) (f k:Nat) (i:List Rec),bs.drop k=Bi false l->k<=bs.length->bs.length<=f+k->(∀r∈l,CA r)->(∀r∈l,Cc r=false)->I3 f bs k i=(i++l.map strip,0)
 | [],f,k,i,h,hk,hf,_,_=>by
  have:(bs.drop k).length=0:=pf
  rw[AZ]at this;rw[Q5 nB,Gm,Cx]
 |r :: l,f,k,i,h,hk,hf,hok,hl=>by
  have hh:bs.drop k=CT false r++Bi false l:=pf
  have h2:=(QN false (hok r pR) (hl r pR)).2;have j:=AM List.length hh;rw[Aj,AZ]at j;obtain⟨f,rfl⟩:∃f',f=f'+1:=⟨f-1,nB⟩;rw[I3,Ae nB,cD hh (hl r pR),Ae pR];simp only;rw[Uh l f _ _ (ES hh) nB nB (fun x hx=>hok x (by simp[hx])) (fun x hx=>hl x (by simp[hx]))];simp
theorem Qm{l:List Rec}(j:∀r∈l,CA r):∀ (R:List Rec) (a:Nat),(∀i r,R[i]? =some r->l[a+i]? =some r)->Ep (Bo l) (xZ l) a (R.map strip)=R
 | [],_,_=>rfl
 |r :: R,a,h=>by
  have h0:=h 0 r rfl;rw[Cw]at h0;obtain⟨t0,t1,t2,t3⟩:=j r (AY h0);have et:(Bo l).getD a 0=r.time.toNat:=by unfold Bo;rw[Aq,BR,h0];rfl
  have el:(xZ l).getD a 0=r.level.toNat:=by unfold xZ;rw[Aq,BR,h0];rfl
  rw[CE,Ep,Qm j R (a+1) (fun i x hx=>by have:=h (i+1) x (by simpa using hx);rwa [show a+1+i=a+(i+1) by omega]),et,el,show((r.time.toNat:Nat):Int)=r.time by omega,show((r.level.toNat:Nat):Int)=r.level by omega];rfl
theorem dU{l:List Rec}(pl:Bool)(hC:C.sum=l.length)(j:∀r∈l,CA r)(hl:∀r∈l,Cc r=false)(hb:(Bi false l).length<=16000)(hk:k<C.length):
 Fv C (BV false pl C l) k=0/\GD C (Bo l) (xZ l) (BV false pl C l) k=(l.drop (C.take k).sum).take (C.getD k 0):=by
 obtain⟨a,ha⟩:=jc ((C.take k).sum);obtain⟨c,hc⟩:=jc (C.getD k 0);have hF:=Uv false pl C l k hk;rw[<-ha,<-hc]at hF;have J:a+c<=l.length:=by have h1:=Pb hk;have h2:=K0 C (k+1);rw[<-ha,<-hc]at h1;omega
 have h:∀r∈(l.drop a).take c,r∈l:=fun r hr=>Cg (CN hr);have E:((l.drop a).take c).length=c:=by rw[Bc,AZ];omega
 have G:(Bi false ((l.drop a).take c)).length<=16000:=by have h1:=KQ false l a;have h2:=KQ false (l.drop a) c;omega
 obtain⟨f1,f2,f3⟩:=Pw (bs:=Bi false ((l.drop a).take c)) pl [] (Pv false (fun r hr=>j r (h r hr))) nB;rw[Cx]at f1 f2 f3;have hr:Gy (Bi false ((l.drop a).take c))=(((l.drop a).take c).map strip,0):=by unfold Gy;rw[Uh ((l.drop a).take c) _ 0 [] pR nB nB (fun r hr=>j r (h r hr)) (fun r hr=>hl r (h r hr))];rfl
 have hE:Fv C (BV false pl C l) k=0:=by unfold Fv;rw[hF,f1,f2,f3,hr,Ae pR,Ae pR,Ae pR,<-hc,Ae];simp only[List.length_map];omega
 refine⟨hE,?_⟩;unfold GD;rw[Ag hE,hF,f2,hr,<-ha,<-hc];refine Qm j _ a fun i r hi=> ?_;rw[Gn]at hi;split at hi
 ·rw[FX]at hi;exact hi
 ·cases hi
theorem Um{C:List Nat}{l:List Rec}(pl:Bool)(hC:C.sum=l.length)(i:∀r∈l,CA r)(hl:∀r∈l,Cc r=false)(hb:(Bi false l).length<=16000):∀ (m k:Nat) (h:List Rec),k+m=C.length->h=l.take (C.take k).sum->Ga C (Bo l) (xZ l) (BV false pl C l) m k h=(l,0)
 |0,k,h,hk,ha=>by
  obtain rfl:k=C.length:=nB
  rw[Ga,ha,List.take_length,hC,List.take_length]
 |m+1,k,h,hk,ha=>by obtain⟨h1,h2⟩:=dU pl hC i hl hb (k:=k) nB;rw[Ga,h1,Ae pR,h2,Um pl hC i hl hb m (k+1) _ nB];rw[ha,Pb nB,List.take_add]
end Body
namespace Idx
open NumPut Sift
def Bw(l:List Str):Nat:=(l.map fun s=>s.length+1).sum
theorem Hr(s:Str)(l:List Str):Bw (s :: l)=s.length+1+Bw l:=by simp[Bw]
theorem On(a b:List Str):Bw (a++b)=Bw a+Bw b:=by simp[Bw]
theorem VR(row:List UInt8):Bw (tell row)<=row.length+1:=by
 unfold tell;split
 ·simp[Bw]
 ·simp[Bw];omega
theorem Pu:∀ (l row:List UInt8),Bw (split row l)<=row.length+l.length+1
 | [],row=>by rw[split];simpa using VR row
 |c :: t,row=>by
  rw[split];split
  ·have:=Pu t (row++ [EM c]);simp at this ⊢;omega
  ·have h1:=Pu t [];have h2:=VR row;rw[On];simp at h1 ⊢;omega
theorem Ur(l:List UInt8):Bw (words l)<=l.length+1/\2*(words l).length<=l.length+1:=by
 have h:=Pu l []
 have h2:∀m:List Str,(∀s∈m,1<=s.length)->2*m.length<=Bw m:=fun m=>by
  induction m with
  |nil=>intro _;simp[Bw]
  |cons s m ih=>intro hs;have a:=ih (fun x hx=>hs x (Cm _ hx));have b:=hs s CP;rw[Hr,AI];omega
 have h3:=h2 (words l) (fun s hs=>(Lb l [] s hs).1);have h4:Bw (words l)<=l.length+1:=by unfold words;simpa using h
 exact⟨h4,nB⟩
theorem VC(s:Str):∀l,Bw (Dw l s)<=Bw l+s.length+1
 | []=>by simp[Dw,Bw]
 |x :: t=>by
  have:=VC s t;rw[Dw];split
  ·rw[Hr,Hr];omega
  ·split<;>simp only[Hr]<;>omega
theorem OX:∀ (l h:List Str),Bw (Bg h l)<=Bw h+Bw l
 | [],h=>by simp[Bg,Bw]
 |x :: t,h=>by have h1:=OX t (Dw h x);have h2:=VC x h;unfold Bg at h1 ⊢;rw[List.foldl_cons,Hr];omega
theorem Tu:∀m:List Str,Bw (m.map (EE :: ·))=Bw m+m.length
 | []=>rfl
 |s :: m=>by rw[CE,Hr,Tu m,Hr,AI,AI];omega
theorem aC(t s:List UInt8):2*Bw (Gc t s)<=2*t.length+3*s.length+5:=by have h1:=OX (G2 t s) [];have h2:=Ur t;have h3:=Ur s;have h4:=Tu (words s);unfold Gc;unfold G2 at h1 ⊢;rw[On]at h1;simp only[Bw,List.map_nil,List.sum_nil]at h1 h2 h3 h4 ⊢;omega
theorem Oi:∀ (ts:List (List Str)) (h:List Str),Bw (ts.foldl Bg h)<=Bw h+(ts.map Bw).sum
 | [],h=>pR
 |t :: ts,h=>by have h1:=Oi ts (Bg h t);have h2:=OX t h;rw[List.foldl_cons,CE,GH];omega
theorem Ud:∀ (t:List Str) (i:Str),i.length<=25->(∀s∈t,s.length<=25)->(EF i t).length<=Bw t+t.length
 | [],_,_,_=>by simp[EF]
 |x :: t,i,hw,h=>by
  have hx:=h x CP;have ih:=Ud t x hx (fun s hs=>h s (Cm _ hs));have ha:=Lx i x;have hd:(Dt (x.drop (Bl i x))).length<=1+x.length:=by unfold Dt H3;rw[Aj,Bk,Kq nM,AZ];omega
  rw[EF,Aj,Aj,Kq nB,Hr,AI];omega
theorem gW{c:List Str}(h:∀s∈c,s.length<=25):(vZ c).length<=Bw c+c.length:=by
 cases c with
 |nil=>simp[vZ]
 |cons x t=>
  have hx:=h x CP;have ih:=Ud t x hx (fun s hs=>h s (Cm _ hs));have hd:(Dt x).length=1+x.length:=by unfold Dt H3;rw[Aj,Bk,Kq nB]
  rw[vZ,Aj,Hr,AI];omega
theorem S6{size:Nat}(h1:1<=size)(h2:size<=64):∀ (f:Nat) (l:List Str),(∀s∈l,s.length<=25)->((Ee size f l).flatMap vZ).length<=Bw l+l.length/\((Ee size f l).flatMap fun c=>gZ (vZ c).length).length<=2*l.length
 |0,l,_=>by simp[Ee]
 |f+1,l,h=>by
  rw[Ee];split
  ·simp
  ·rename_i e;have hp:1<=l.length:=FW.2 e;obtain⟨a,b⟩:=S6 h1 h2 f (l.drop size) (fun s hs=>h s (Cg hs));have ht:∀s∈l.take size,s.length<=25:=fun s hs=>h s (CN hs);have c:=gW ht;have d:=MQ (l:=l.take size) ht;have g:(gZ (vZ (l.take size)).length).length<=2:=Block.KG (by rw[Bc]at d;omega);have k:Bw l=Bw (l.take size)+Bw (l.drop size):=(by rw[<-On,EX]);rw[AZ]at a b;rw[Bc]at c;rw[Dm,Dm,Aj,Aj];constructor<;>omega
theorem Vp{size:Nat}{l:List Str}(h1:1<=size)(h2:size<=64)(h:∀s∈l,s.length<=25)(hl:l.length<=1000000):(CO size l).length<=10+Bw l+3*l.length:=by obtain⟨a,b⟩:=S6 h1 h2 l.length l h;have c:=sZ (x:=l.length) nB;unfold CO GR;rw[Aj,Aj];omega
end Idx
namespace Body
open NumPut Recs Opts Idx Go.Proofs.YtfgdoknipbpfhaaGreatDoor.One
open Ef (efO Cd efW Ht FU Ho)
open Huff (bytesOf_length)
theorem Vb{bound:Nat}{l:List Nat}(hb:bound<=60)(hm:Cd bound none l=true)(h0:l≠ [])(hn:l.length<=bound):(efO bound l).length<=24:=by
 have h:=QX nB hm h0 hn;have h1:efO bound l=gZ l.length++Huff.bytesOf (FU (efW bound l.length) l):=Ae h0;have h2:1<=l.length:=FW.2 h0;have hq:1<=bound / l.length:=(Nat.one_le_div_iff nB).2 hn;have hW:l.length*efW bound l.length<=bound:=lq
 have i:=Ht (efW bound l.length) l;have E:=Ho bound l none hm;have hp:=(Nk bound l none hm).1;have j:=Nn (l.map (·/ 2 ^ efW bound l.length)) 0 bound (Da _) (fun x hx=>by obtain⟨y,hy,rfl⟩:=Cl.1 hx;exact⟨Da _,Bm (ID _ _) (by have:=E y hy;omega)⟩) (List.Pairwise.map _ (fun a b h=>Nat.div_le_div_right h) hp);rw[Bk]at j;rw[h1,Aj,Kq nB,bytesOf_length];unfold FU;rw[Aj,i];omega
theorem NL:∀l:List Rec,2*((((l.map jZ).map Bw).sum:Nat):Int)<=3*Bq l
 | []=>by simp[KU]
 |r :: l=>by
  have ih:=NL l;have e:Bq (r :: l)=weigh r+Bq l:=pV
  have h:=aC r.text.data.toList r.source.data.toList;have h1:r.text.data.toList.length=r.text.size:=Array.length_toList;have h2:r.source.data.toList.length=r.source.size:=Array.length_toList;rw[h1,h2]at h;have h3:2*Bw (jZ r)<=2*r.text.size+3*r.source.size+5:=h;rw[CE,CE,GH,e];unfold weigh;omega
theorem jG{l:List Rec}(h:∀r∈l,CA r)(hl:∀r∈l,Cc r=false):((Bi false l).length:Int)<=Bq l:=by
 induction l with
 |nil=>simp[Bi,KU]
 |cons r l ih=>
  have ih:=ih (fun x hx=>h x (Cm _ hx)) (fun x hx=>hl x (Cm _ hx));have e:Bq (r :: l)=weigh r+Bq l:=pV
  obtain⟨q1,q2⟩:=Hp (hl r CP);have a:(BY r.source).length<=2+r.source.size:=by unfold BY;rw[Aj,LH];have:=Block.KG (x:=r.source.size) nB;omega
  have b:(BY r.text).length<=2+r.text.size:=by unfold BY;rw[Aj,LH];have:=Block.KG (x:=r.text.size) nB;omega
  have c:Bi false (r :: l)=CT false r++Bi false l:=rfl;have d:CT false r=BY r.source++BY r.text:=rfl;rw[c,d,e,Aj,Aj];unfold weigh;omega
theorem Od:∀ (l:List Int) (a:Int),(∀x∈l,0<=x)->a<=l.foldl (·+ ·) a
 | [],a,_=>pR
 |x :: l,a,h=>by have:=Od l (a+x) (fun y hy=>h y (by simp[hy]));have:=h x pR;rw[List.foldl_cons];omega
theorem lT{l:List Rec}{r:Rec}(hr:r∈l):weigh r<=Bq l:=by
 obtain⟨a,b,rfl⟩:=List.append_of_mem hr;have hp:∀x∈(List.map weigh b),0<=x:=fun x hx=>by obtain⟨y,_,rfl⟩:=Cl.1 hx;unfold weigh;omega
 have hq:∀x∈(List.map weigh a),0<=x:=fun x hx=>by obtain⟨y,_,rfl⟩:=Cl.1 hx;unfold weigh;omega
 have h1:=Od _ 0 hq;have h2:=Od _ ((List.map weigh a).foldl (·+ ·) 0+weigh r) hp;unfold Bq;rw[DY,CE,List.foldl_append,List.foldl_cons];omega
theorem N8{l:List Rec}(hn:(l.length:Int)<=60)(hw:Bq l<=4000):DQ l=0:=by
 have i:¬l.any Cc=true:=by intro h;obtain⟨r,hr,hl⟩:=List.any_eq_true.1 h;have:=lT hr;unfold weigh at this;unfold Cc at hl;simp at hl;omega
 unfold DQ;rw[Ae nB,Ae i,Ae nB]
theorem ZR{o:Opt}{l:List Rec}(ho:De o=0)(h1:l.length<=60)(h2:Bq l<=4000)(j:∀r∈l,CA r)(hk:DQ l=0):
 (AW (l.map jZ)).length<=20000/\(ixR o l).length<=99000/\(Bi false l).length<=16000/\(H4 o l).length<=99000:=by
 have hw:=NL l;have hs:Bw (AW (l.map jZ))<=6000:=by have:=Oi (l.map jZ) [];have e:Bw ([]:List Str)=0:=rfl;unfold AW;omega
 have hn:2*(AW (l.map jZ)).length<=Bw (AW (l.map jZ)):=by
  have h:=Ld (l:=l) (by have:=Ke l;have:=Lm (l.map jZ);omega)
  have h3:∀m:List Str,(∀s∈m,1<=s.length)->2*m.length<=Bw m:=fun m=>by
   induction m with
   |nil=>intro _;simp[Bw]
   |cons s m ih=>intro hs;have a:=ih (fun x hx=>hs x (Cm _ hx));have b:=hs s CP;rw[Hr,AI];omega
  exact h3 _ (fun s hs=>(IN h s hs).1)
 have h:=Ld (l:=l) nB;obtain⟨_,_,b3,b4⟩:=JD ho;have i:=Kx l;have hd:=Vp (size:=o.bucket.toNat) (l:=AW (l.map jZ)) nB nB (fun s hs=>(IN h s hs).2) nB;have hl:=MD (bound:=l.length) (C:=24) (ls:=(AW (l.map jZ)).map (BP (l.map jZ))) (fun x hx=>by have h3:=i.2 x hx;exact Vb h1 (EL.1 i.1 x hx) h3.1 h3.2);rw[Bk]at hl;have hx:(ixR o l).length<=88000:=by unfold ixR ixO;rw[Aj];omega
 have hb:=jG j (Hn hk);refine⟨nB,nB,nB,?_⟩;have M:=Jc o l;have N:=Je o l;have J:=Jg false o.plain (tZ o l) l nB;have L:=J9 j nB;have hF:∀s∈(BV false o.plain (tZ o l) l).map List.length,s<=(BV false o.plain (tZ o l) l).flatten.length:=fun s hs=>oP
 have E:=LQ (n:=l.length) (G:=tZ o l) (S:=(BV false o.plain (tZ o l) l).map List.length) (x:=(yZ (BW l)).length) (y:=(yZ (ixR o l)).length) nB nB (fun z hz=>by have:=G4 hz;omega) (fun z hz=>by have:=hF z hz;omega) n5 n5;unfold H4 CH;simp only[List.length_append];rw[Ce,Ce,Ce];have h4:∀z,(Cn z).length=4:=fun _=>rfl;rw[h4];rw[Ce,Ce]at E;omega
end Body
namespace Body
open Go.RowKit Mem Go.Proofs.YtfgdoknipbpfhaaGreatDoor.Own Canon Nums Recs Opts
open Crc (TabAt)
open Idx (Str IxAt AW jZ)
structure Small (o:Opt) (l:List Rec):Prop where
 ob:De o=0
 n:l.length<=60
 ck:DQ l=0
 ok:∀r∈l,CA r
 t:(AW (l.map jZ)).length<=20000
 x:(ixR o l).length<=99000
 b:(Bi false l).length<=16000
 m:(H4 o l).length<=99000
theorem Small.of{o:Opt}{l:List Rec}(ho:De o=0)(h1:(l.length:Int)<=60)(h2:Bq l<=4000)(h:∀r∈l,CA r):Small o l:=by have hk:=N8 h1 h2;obtain⟨a,b,c,d⟩:=ZR ho nB h2 h hk;exact⟨ho,nB,hk,h,a,b,c,d⟩
def FR(o:Opt)(l:List Rec):List (List Nat):=BV false o.plain (tZ o l) l
theorem Small.all{o:Opt}{l:List Rec}(h:Small o l):(tZ o l).length=(FR o l).length/\(Bo l).length=(tZ o l).sum/\(xZ l).length=(tZ o l).sum/\(∀f∈FR o l,f.length<=100000/\∀x∈f,x<=255)/\(tZ o l).sum<=20000/\(FR o l).length<=20000:=by have hs:=Je o l;have hc:=Jc o l;have hn:=h.n;have hf:=JM false o.plain (tZ o l) l;have i:=Jg false o.plain (tZ o l) l h.b;have hb:=h.b;refine⟨hf.symm,by unfold Bo;rw[Bk,hs],by unfold xZ;rw[Bk,hs],fun f hf=>⟨?_,fun x hx=>O5 false o.plain (tZ o l) l h.ok x (List.mem_flatten.2 ⟨f,hf,hx⟩)⟩,nB,by unfold FR;omega⟩;have h1:f.length<=((FR o l).map List.length).sum:=G4 (Cl.2 ⟨f,hf,rfl⟩);rw[<-List.length_flatten]at h1;unfold FR at h1;omega
theorem Small.ix{o:Opt}{l:List Rec}(h:Small o l):(nZ l).1.length<=20000/\(nZ l).2.length<=20000/\∀x∈(nZ l).2,x.length<=20000:=by have ht:=h.t;have hn:=h.n;refine⟨ht,by unfold nZ;simp only;rw[Bk];exact ht,fun x hx=> ?_⟩;have:=((Kx l).2 x hx).2;omega
end Body
namespace Body
open NumPut Nums Go.Proofs.YtfgdoknipbpfhaaGreatDoor.One Recs Opts Crc
open Idx (AW BP jZ EC CV Nc ixO Cn eqX Str)
open Block (Cs opE opO opA Pw)
theorem Zy{o:Opt}{l:List Rec}{ix:List Nat}{Y:List Idx.Str×List (List Nat)}(ho:De o=0)(ae:∀r∈l,CA r)(hb:(Bi false l).length<=16000)(an:ix.length<=99000)(hn:l.length<=1000)(hY:Idx.ixR o.bucket.toNat l.length ix=(Y,0))(ai:ls=CH l.length (tZ o l) (BV false o.plain (tZ o l) l) (BW l) ix):
 Iv o ls=0/\Ed (Eh ls)=tZ o l/\Er (Eh ls)=(BV false o.plain (tZ o l) l).map List.length/\oN ls=l.length/\ED l.length (Bu (Ix ls))=(Bo l,xZ l,(BW l).length,0)/\
  Idx.ixR o.bucket.toNat l.length (Bu (Iw ls))=(Y,0)/\Ek (Er (Eh ls)) (ls.take (FM ls))=BV false o.plain (tZ o l) l:=by
 have j:=Je o l;have aj:=Jc o l;have ab:∀x∈tZ o l,1<=x:=Lu _ _;obtain⟨C,hC⟩:=jc (tZ o l);obtain⟨FS,J⟩:=jc (BV false o.plain C l);rw[<-hC]at j aj ab ⊢;rw[<-J];have ah:FS.length=C.length:=by rw[J,JM]
 have ak:FS.flatten.length<=(Bi false l).length+25*C.length:=by rw[J];exact Jg false o.plain C l hb
 have aq:=J9 ae nB;obtain⟨X,hX⟩:=jc (yZ ix);obtain⟨K,hK⟩:=jc (yZ (BW l));have am:X.length=ix.length+4:=by rw[hX,Ce]
 have al:K.length=(BW l).length+4:=by rw[hK,Ce]
 obtain⟨d,hd⟩:=jc (Dv l.length C (FS.map List.length) K.length X.length);have ac:ls=(FS.flatten++(K++X))++(yZ d++Cn (yZ d).length):=by rw[ai];unfold CH;rw[<-hC,<-J,<-hX,<-hK,<-hd];simp only[List.append_assoc]
 have hS:∀s∈FS.map List.length,s<=FS.flatten.length:=fun s hs=>oP
 have Q:(FS.map List.length).sum=FS.flatten.length:=List.length_flatten.symm;have af:∀g∈C,g<=l.length:=fun g hg=>by rw[<-j];exact G4 hg
 have ag:=LQ (n:=l.length) (G:=C) (S:=FS.map List.length) (x:=K.length) (y:=X.length) nB nB (fun z hz=>by have:=af z hz;omega) (fun z hz=>by have:=hS z hz;omega) nB nB;rw[<-hd]at ag;obtain⟨p1,p2,p3,p4⟩:=dN ac n5;obtain⟨q1,q2,q3,q4,q5,q6⟩:=Wj hd nB (by rw[Bk,ah]) nB af (fun s hs=>by have:=hS s hs;omega) nB nB;have hcut:C7 (yZ d)=0/\Bu (yZ d)=d:=OP d;have i:Eh ls=d:=by unfold Eh;rw[p1];exact hcut.2
 have hN:oN ls=l.length:=by unfold oN;rw[i,q2,j]
 have M:Ix ls=K:=by unfold Ix;rw[p4,i,q3,q4,Q,List.drop_left,List.take_left]
 have L:Iw ls=X:=by unfold Iw;rw[p4,i,q3,q4,Q,<-List.drop_drop,List.drop_left,List.drop_left]
 have N:C7 K=0/\Bu K=BW l:=by rw[hK];exact OP _
 have Z:C7 X=0/\Bu X=ix:=by rw[hX];exact OP _
 have E:=W5 ae nB;refine⟨?_,by rw[i,q2],by rw[i,q3],hN,by rw[M,N.2,E],by rw[L,Z.2,hY],by rw[i,q3,p4,UG]⟩;have U:Iy l.length K=0:=by unfold Iy;rw[N.1,N.2,E,Ae pR,Ae pR,Ae pR]
 have aa:Gs (FM ls) d=0:=by
  unfold Gs;rw[q6,q2,q1,q3,q4,q5,p3,Ae pR,Ae];rintro(h|h|h)
  ·have:=ab 0 h;omega
  ·exact h j
  ·rw[Q,Aj,Aj]at h;omega
 unfold Iv opnF opnD opnC opnI;rw[ho,p1,hcut.1,i,aa,hN,M,U,L,Z.1,Z.2,hY,Ae pR,Ae p2];simp
theorem k8{l:List Rec}(Y:List Str×List (List Nat))(pl:Bool)(hC:C.sum=l.length)(h:∀r∈l,CA r)(hk:DQ l=0)(hb:(Bi false l).length<=16000):
 Hy C (Bo l) (xZ l) Y (BV false pl C l)=(if eqX Y (nZ l)=true then 0 else 15)/\Ju C (Bo l) (xZ l) Y (BV false pl C l)=(if eqX Y (nZ l)=true then l else []):=by
 have hg:=Um pl hC h (Hn hk) hb C.length 0 [] nB pR;have hE:Hy C (Bo l) (xZ l) Y (BV false pl C l)=(if eqX Y (nZ l)=true then 0 else 15):=by unfold Hy;rw[JM,hg];unfold Mi;rw[Ae pR,hk,Ae pR]
 refine⟨hE,?_⟩;unfold Ju;rw[hE,JM,hg];split<;>simp
structure Other (n:Nat) (l:List Rec):Prop where
 t:(nZ l).1.length<=20000
 e:(nZ l).2.length=(nZ l).1.length
 d:EC (nZ l).1=true
 z:∀x∈(nZ l).2,x≠ []
 y:∀x∈(nZ l).2,x.length<=30
theorem Other.of{l:List Rec}(h1:(l.length:Int)<=30)(h2:Bq l<=1500):Other n l:=by
 have a:=Lm (l.map jZ);have b:=Ke l;have h:=Kx l;refine⟨?_,by unfold nZ;simp,Ld nB,fun x hx=>(h.2 x hx).1,fun x hx=> ?_⟩
 ·show(AW (l.map jZ)).length<=20000;omega
 ·have:=(h.2 x hx).2;omega
theorem Zg{o:Opt}{l:List Rec}(ho:De o=0)(hn:n<=60)(h1:(l.length:Int)<=30)(h2:Bq l<=1500)(hm:CV n (nZ l).2=true):(ixO o.bucket.toNat n (nZ l).1 (nZ l).2).length<=50000:=by
 have hw:=NL l;have hs:Idx.Bw (nZ l).1<=6000:=by have:=Idx.Oi (l.map jZ) [];have e:Idx.Bw ([]:List Str)=0:=rfl;show Idx.Bw (AW (l.map jZ))<=6000;unfold AW;omega
 have hO:=Other.of (n:=n) h1 h2;have hT:(nZ l).1.length<=1500:=by have a:=Lm (l.map jZ);have b:=Ke l;show(AW (l.map jZ)).length<=1500;omega
 obtain⟨_,_,b3,b4⟩:=JD ho;have hd:=Idx.Vp (size:=o.bucket.toNat) (l:=(nZ l).1) nB nB (fun s hs=>(Idx.IN hO.d s hs).2) nB;have hl:=MD (bound:=n) (C:=24) (ls:=(nZ l).2) (fun x hx=>Vb hn (EL.1 hm x hx) (hO.z x hx) (Idx.LB (EL.1 hm x hx) (hO.z x hx)).2);rw[hO.e]at hl;unfold ixO;rw[Aj];omega
end Body
namespace Body
open Go.RowKit Mem Go.Proofs.YtfgdoknipbpfhaaGreatDoor.Own Canon Nums Recs Opts
open Crc (TabAt Bu C7)
open Go.Proofs.YtfgdoknipbpfhaaGreatDoor.Open (intF)
open Idx (Str IxAt No KW)
theorem Xx{w:World}{base c:Nat}{A:Option Addr}(h:w.ownsRow base 5 1 (.slice A n c) n (bZ .u8 ls))(hn:ls.length=n):Row w w A n 1 (kZ .u8 ls):=by subst hn;exact own_row h
end Body
namespace Body
open Go.RowKit Mem Go.Proofs.YtfgdoknipbpfhaaGreatDoor.Own Canon Nums Recs Opts
open Crc (TabAt)
def TO(F:List (List Nat))(i:Int):Prop:=0<=i/\i<(F.length:Int)
instance (F:List (List Nat)) (i:Int):Decidable (TO F i):=by unfold TO;infer_instance
end Body
end
namespace Recs
open Go.RowKit Mem Go.Proofs.YtfgdoknipbpfhaaGreatDoor.Own Canon NumPut Nums
theorem cO(w:World)(S:Nat)(A:Option Addr)(n c:Nat)(l:List Rec)(hn:l.length=n)(h:n<=0):
 Calls prog 46 #[S,false, .slice A n c] w (JL S false l w):=by
 obtain rfl:n=0:=nB
 obtain rfl:l= []:=LL.1 hn;unfold JL;have HR:Hid (Fo S (Eb false [])= []):=by show _=_;simp[Eb,Fo]
 clear hn h;go_enter func46,ntmps46;go_wp2_with fail;go_loopw [7,14] (fun v i wr=>v= .slice none 0 0/\i= .int .i64 0/\Hid (wr=w)) (fun _ _ _=>0)
 case atStart=>exact⟨rfl,rfl,jm⟩
 case round=>exact nA
theorem fW(w:World)(A:Option Addr)(n c:Nat)(l:List Rec)(hn:l.length=n)(h:n<=0):
 Calls prog 50 #[.slice A n c] w (Jd l w):=by
 obtain rfl:n=0:=nB
 obtain rfl:l= []:=LL.1 hn;unfold Jd;have HR:Hid (BW []= []):=by show _=_;simp[BW,Bo,xZ,Cr,lvB]
 clear hn h;go_enter func50,ntmps50;go_wp2_with fail;go_loopw [3,10] (fun v i wr=>v= .slice none 0 0/\i= .int .i64 0/\Hid (wr=w)) (fun _ _ _=>0)
 case atStart=>exact⟨rfl,rfl,jm⟩
 case round=>
  obtain⟨rfl,rfl,hw⟩:=hrel;have hw:=hw.out;subst hw;go_wp2_with fail;obtain⟨w0,rfl⟩:=jc wr;go_loopw [0,3] (fun lv v wx=>lv= .slice A 0 c/\v= .slice none 0 0/\Hid (wx=w0)) (fun _ _ _=>0)
  case atStart=>exact⟨rfl,rfl,jm⟩
  case round=>exact nA
end Recs
namespace Idx
open Go.RowKit Go.Shelf Mem Go.Proofs.YtfgdoknipbpfhaaGreatDoor.Own Canon Sift
open NumPut Recs Crc Block
theorem fD(w:World)(size:Nat)(A:Option Addr)(n c:Nat)(ls:List Str)(hn:ls.length=n)(h1:1<=size)(h2:size<=64)(hN:n<=20000)(ar:n<=c)(ag:n<=0)(hm:EC ls=true)(ha:Row w w A n 1 (Ei ls)):
 Calls prog 104 #[.int .i64 (size:Nat), .slice A n c] w fun e w'=>∃v,e= .returned (.tuple #[v,jd])/\w'.ownsRow w 5 1 v (CO size ls).length (bZ .u8 (CO size ls))/\Below w w w':=by
 have HN:=hid hn;have ah:=hid ag;clear ag;have HA:=hid ha;have DM:=hid (ZG w A n c ls hn nB ha);rw[hm]at DM;have DN:=hid (fun wx=>Kw wx n nB);have DC:=hid (fun wx=>gN wx A n c size h1 nB);have y1:=jb ((size:Int)<1)
 have az:=jb (size<1)
 have y2:=jb ((64:Int)<size)
 have a1:=jb (64<size)
 have u1:IntKind.u64.wrap (n:Int)=(n:Int):=n4
 obtain⟨b,i,af⟩:∃b i,0<n->A=some ⟨b,i,none⟩:=by
  by_cases h:0<n
  ·obtain⟨b,i,hA,_,_⟩:=ha h;exact⟨b,i,fun _=>hA⟩
  ·exact⟨0,0,fun h'=>absurd h' h⟩
 have aj:=hid af;have HM:=hid hm;clear hn ha hm af;refine(callsIn_wide (n:=3)).1 (callsIn_of_wp_marks func104 rfl trivial (wpIn_wide.2 ?_) rfl);simp only[ntmps104,List.size_toArray,List.length_cons,List.length_nil,Nat.reduceAdd,Nat.reduceSub,Array.replicate_succ,Array.replicate_zero,List.push_toArray,List.append_toArray,List.nil_append,List.cons_append];go_wp2_with fail;refine DM.out.mono ?_;rintro e w1 ⟨rfl,rfl⟩;obtain⟨w,rfl⟩:=jc w1;clear DM;go_wp2_with fail;refine(DN.out _).mono ?_;rintro e w2 ⟨v2,rfl,Q,ab⟩;obtain⟨A2,c2,rfl⟩:=aZ Q;have ac:=hid Q;have L:=hid ab;clear Q ab DN;go_wp2_with fail;refine(DC.out _).mono ?_;rintro e w3 ⟨rfl,rfl⟩;clear DC;go_wp2_with fail;have Y:Blk ((((w2.alloc (.cells #[.slice A2 (gZ n).length c2] 28)).alloc (.cells #[()] 28)).alloc (.cells #[.slice A n c] 50)).alloc (.cells #[.int .i64 (size:Nat)] 3)) w2 28 #[.slice A2 (gZ n).length c2]:=(((Blk.made _ _ _).alloc _).alloc _).alloc _;have aa:Blk ((((w2.alloc (.cells #[.slice A2 (gZ n).length c2] 28)).alloc (.cells #[()] 28)).alloc (.cells #[.slice A n c] 50)).alloc (.cells #[.int .i64 (size:Nat)] 3)) (w2.heap.size+1) 28 #[()]:=((Blk.made_at _ _ _ pR).alloc _).alloc _;have N:Blk ((((w2.alloc (.cells #[.slice A2 (gZ n).length c2] 28)).alloc (.cells #[()] 28)).alloc (.cells #[.slice A n c] 50)).alloc (.cells #[.int .i64 (size:Nat)] 3)) (w2.heap.size+1+1) 50 #[.slice A n c]:=(Blk.made_at _ _ _ pR).alloc _;have U:Blk ((((w2.alloc (.cells #[.slice A2 (gZ n).length c2] 28)).alloc (.cells #[()] 28)).alloc (.cells #[.slice A n c] 50)).alloc (.cells #[.int .i64 (size:Nat)] 3)) (w2.heap.size+1+1+1) 3 #[.int .i64 (size:Nat)]:=Blk.made_at _ _ _ pR;have E:Below w2 w2 ((((w2.alloc (.cells #[.slice A2 (gZ n).length c2] 28)).alloc (.cells #[()] 28)).alloc (.cells #[.slice A n c] 50)).alloc (.cells #[.int .i64 (size:Nat)] 3)):=cZ (cZ (cZ (cZ (Ak _ _))));have a0:((((w2.alloc (.cells #[.slice A2 (gZ n).length c2] 28)).alloc (.cells #[()] 28)).alloc (.cells #[.slice A n c] 50)).alloc (.cells #[.int .i64 (size:Nat)] 3)).heap.size=w2.heap.size+4:=pR
 generalize ((((w2.alloc (.cells #[.slice A2 (gZ n).length c2] 28)).alloc (.cells #[()] 28)).alloc (.cells #[.slice A n c] 50)).alloc (.cells #[.int .i64 (size:Nat)] 3))=W0 at *;have Z:W0.ownsRow w 5 1 (.slice A2 (gZ n).length c2) (gZ n).length (bZ .u8 (gZ n)):=eZ ac.out (fun y hy=>E.block y (Ai ac.out y hy).2);have al:Below w w W0:=zZ E L.out.size L.out;have au:=L.out.size;obtain⟨C,hC⟩:∃C:Nat->List Nat,C=fun k=>vZ (Db size ls k):=⟨_,rfl⟩
 refine wpIn_wide.1 (wpIn_rangeFunc_ownF (F:=Fence.wide) (n:=3) rfl nB (gf:=231) (lb:=#[.pointer (some ⟨w2.heap.size+1+1,0,none⟩), .pointer (some ⟨w2.heap.size+1+1+1,0,none⟩)]) rfl trivial (enters_of func231 ni rfl)
  (iO 2 w (w2.heap.size+1+1) n c size (nCh size n) A b i aj.out h1 nB nB ar (fun k=>Lr h1) W0 nB (N.cell 0) (U.cell 0)) jH (iT nB nB) (Ak _ _) (fun _=>rfl)
  (fun pre W=>DSt w w2 (.slice A n c) (.int .i64 (size:Nat)) (gZ n++pre.flatMap (fun x=>gZ (C x.val).length)) (pre.flatMap (fun x=>C x.val)) W/\Below w w W)
  (fun _ _ _=>False)
  (OwnFrom.and (Own.from (DSt.own _ _ _ _ _ _) _) (ownFrom_below (Am _) nB))
  (fun _ _ _ _ _ hs _ _=>hs)
  ⟨⟨_,_,Y,aa,N,U,by simpa using Z,AE _ _ _ _,(fun _ _ h=>by cases h),au⟩,al⟩
  (fun x=>{tmps:=#[.int .i64 size, .slice A n c,undef,undef, .slice none 0 0, .int .i64 0, .pointer (some ⟨w2,0,none⟩), .pointer (some ⟨w2.heap.size+1,0,none⟩),chV b i size n x.val,undef, .int .i64 size, .bool false, .bool false, .int .i64 size, .bool false, .bool false, .bool false, .slice A n c, .bool true, .bool false, .bool false, .slice A n c, .int .i64 n, .int .u64 n, .slice A2 (gZ n).length c2, .slice A n c, .int .i64 size, .func (.func 231) #[] #[.pointer (some ⟨w2.heap.size+1+1,0,none⟩), .pointer (some ⟨w2.heap.size+1+1+1,0,none⟩)],chV b i size n x.val,undef,undef,undef,undef,undef,undef,undef,undef,undef,undef,undef,undef,undef,undef,undef],defers:= [] }) ?assign ?body ?done ?stop)
 case assign=>intro l x W K hK;exact absurd ((Lr (n:=n) (k:=x.val) h1).1 x.isLt) (by have:=ah.out;omega)
 case body=>rintro l pre ⟨k,hk⟩;exact absurd ((Lr (n:=n) (k:=k) h1).1 hk) (by have:=ah.out;omega)
 case done=>
  rintro D ys W hD G ⟨⟨vH,vB,hS⟩,hB⟩ hK;have J:∀s∈ls,s.length<=25:=fun s hs=>(IN HM.out s hs).2;have eH:gZ n++ys.flatMap (fun x=>gZ (C x.val).length)=hdB size ls (nCh size n):=by unfold hdB;rw[HN.out,hC,<-G,List.flatMap_map]
  have eB:ys.flatMap (fun x=>C x.val)=bdB size ls (nCh size n):=by unfold bdB;rw[hC,<-G,List.flatMap_map]
  rw[eH,eB]at hS;have ay:Hid (CO size ls=hdB size ls (nCh size n)++bdB size ls (nCh size n)):=by show _=_;rw[Mq h1,HN.out];unfold hdB bdB;rw[HN.out]
  have l1:=Lp J h2 oA (nCh size n);have l2:=Mk J h1 (nCh size n);rw[HN.out]at l2;have l3:=Nm (n:=n) h1;generalize hdB size ls (nCh size n)=HH at *;generalize bdB size ls (nCh size n)=BB at *;have l4:BB.length<=31*n:=nB
  obtain⟨AH,cH,rfl⟩:=aZ hS.oH;obtain⟨AB,cB,rfl⟩:=aZ hS.oB;have P1:Part.Ok (⟨AH,cH,HH⟩:Part) W:=wZ hS.oH rfl;have P2:Part.Ok (⟨AB,cB,BB⟩:Part) W:=wZ hS.oB rfl;have an:FK [(⟨AH,cH,HH⟩:Part),⟨AB,cB,BB⟩]<=1000000:=by simp[FK];omega
  have d0:=hS.kH.iy 0;have d1:=hS.kB.iy 0;have aw:=hid P1;have ak:=hid P2;have HB:=hid hB;have HK:=hid hK;have ax:=(Array.getElem?_eq_some_iff.1 hK).1;clear eH eB hS P1 P2 hB hK G l2 J hC Y aa N U Z E;go_wp2_with fail;refine(O8 _ _ 2 [(⟨AH,cH,HH⟩:Part),⟨AB,cB,BB⟩] rfl nB an (fun p hp=>by rcases BK.1 hp with rfl|hp;exact aw.out.step (cZ (Ak _ _));rcases BK.1 hp with rfl|hp;exact ak.out.step (cZ (Ak _ _));cases hp) (Blk.made _ _ _)).mono ?_;rintro e w9 ⟨v9,rfl,av,ae⟩;go_wp2_with fail;have M:w9.heap[D]? =some (.deferred (some [])):=(ae.block D p5).trans ((EA _ _ D ax).trans HK.out);have ai:w.heap.size<=D:=nB
  have j:=lZ av (show w.heap.size<=_ by have:=HB.out.size;simp;omega);simp only[List.flatMap_cons,List.flatMap_nil,List.append_nil]at j;rw[<-ay.out]at j;have aq:Below w w w9:=zZ ae (by have:=HB.out.size;simp;omega) (mZ HB.out.size HB.out);have am:v9.ownBlock≠some D:=fun e=>by have h:=own_cells j e M;cases h
  refine⟨pR, .inl ⟨_,_,rfl,run_takeDeferred M,?_⟩⟩;refine⟨_,results_tmp2 rfl _ _ _,v9,rfl,?_,aq.trans (belowK_b (w:=w) (Am _) w9 D _ _ ai M rfl rfl)⟩;exact eZ j fun y hy=>World.putObj_heap_other (fun e=>am pj)
 case stop=>rintro D cc pre W _ _ h _;exact h.elim
end Idx
namespace Idx
open Go.RowKit Mem Go.Proofs.YtfgdoknipbpfhaaGreatDoor.Own Canon Sift
open NumPut Recs
open Ef (Cd efO)
open Block (wZ)
open Go.Proofs.YtfgdoknipbpfhaaGreatDoor.One (FrsAt FrsAt.step FrsAt.grown FrsAt.snoc Gv IW)
theorem dY(w:World)(size bound base:Nat)(vT vL:Value)(vals:List Value)(ts:List Str)(ls:List (List Nat))(h1:1<=size)(h2:size<=64)(hb:bound<=20000)(hT:ts.length<=20000)(hL:ls.length=ts.length)(hm:EC ts=true)(h0:∀l∈ls,l≠ [])(N:CV bound ls=true)(h:IxAt w base vT vL vals ts ls)(bg:ts.length<=0):
 Calls prog 51 #[.int .i64 (size:Nat),bound, .agg #[vT,vL]] w fun e w'=>∃v,e= .returned (.tuple #[v,jd])/\w'.ownsRow w 5 1 v (ixO size bound ts ls).length (bZ .u8 (ixO size bound ts ls))/\Below w w w':=by
 obtain⟨j0,bf,a9,bd,be⟩:=info_parts IW;have a4:=VI hm h1 h2 hT;have au:∀k,(BI bound (ls.take k)).length<=900200000:=fun k=>by have h3:CV bound (ls.take k)=true:=EL.2 fun x hx=>EL.1 N x (CN hx);have h4:=TF hb (fun l hl=>h0 l (CN hl)) h3;rw[Bc]at h4;omega
 have a0:=hid au;obtain⟨n,hn⟩:=jc ts.length;have Z:ls.length=n:=nB
 have ht:=h.t;have hl:=h.l;rw[<-hn]at ht hT;rw[Z]at hl;obtain⟨AT,cT,rfl⟩:=aZ ht;obtain⟨AL,cL,rfl⟩:=aZ hl;have az:=(Rc ht).1;have ay:Hid (n<=0):=pE
 have H:=hid h;have a1:=hid Z;have HL:=hid hl;have H0:=hid h0;have ba:=hid N;have ak:Blk (w.alloc (.cells #[.slice AT n cT, .slice AL n cL] 53)) w 53 #[.slice AT n cT, .slice AL n cL]:=Blk.made _ _ _;have aj:Below w w (w.alloc (.cells #[.slice AT n cT, .slice AL n cL] 53)):=cZ (Ak _ _);have DD:=hid (fun wx (hx:Below w w wx)=>fD wx size AT n cT ts hn.symm h1 h2 hT az nB hm (((Io ht).below hx).mono hx.size));have y1:=jb ((bound:Int)<0)
 have y2:=jb ((20000:Int)<bound)
 have bb:=jb (20000<bound)
 have z1:((n:Int)==(n:Int))=true:=pR
 have aa:Hid (ixO size bound ts ls=CO size ts++BI bound ls):=rfl;have a6:Hid (∀k x,ls[k]? =some x->BI bound (ls.take (k+1))=BI bound (ls.take k)++efO bound x):=fun k x hx=>Vl bound ls k x hx;obtain⟨DO,ab⟩:=jc (CO size ts);rw[<-ab]at DD aa a4;have U:=hid ak;have Y:=hid aj;clear hn Z hl ht h hm h0 ak aj N au ab;go_enter func51,ntmps51;have q0:=U.out.iy 0;have q1:=U.out.iy 1;go_wp2_with fail;refine(DD.out _ Y.out).mono ?_;rintro e w2 ⟨v2,rfl,Q,M⟩;obtain⟨A2,c2,rfl⟩:=aZ Q;have av:w.heap.size+1=(w.alloc (.cells #[.slice AT n cT, .slice AL n cL] 53)).heap.size:=pR
 have J:Hid (Blk w2 w 53 #[.slice AT n cT, .slice AL n cL]):=U.out.step M;have ag:=hid (dZ M Y.out);have ah:=hid (lZ Q Y.out.size);have a5:w.heap.size<w2.heap.size:=J.out.lt;have aw:(w2.alloc (.cells #[.slice A2 DO.length c2] 28)).cell? ⟨w,1,none⟩=some (.slice AL n cL):=(J.out.alloc _).cell 1;clear Q M DD q0 q1 av;go_wp2_with fail;have aq:Hid ((w2.alloc (.cells #[.slice A2 DO.length c2] 28)).ownsRow w2 28 1 (.slice (some ⟨w2,0,none⟩) 1 1) (0+1) ([(⟨A2,c2,DO⟩:Part)].map Part.v)):=own_one (Am _);have ae:Hid (FrsAt (w2.alloc (.cells #[.slice A2 DO.length c2] 28)) w [(⟨A2,c2,DO⟩:Part)]):=fun p hp=>by rw[Em.1 hp];exact ah.out.alloc _
 have al:Hid (Below w2 w2 (w2.alloc (.cells #[.slice A2 DO.length c2] 28))):=cZ (Ak _ _);have ac:Hid (([(⟨A2,c2,DO⟩:Part)].flatMap Part.ls)=DO++BI bound (ls.take 0)):=by show _=_;simp[BI]
 clear aw ah;generalize w2.alloc (.cells #[.slice A2 DO.length c2] 28)=w3 at *;go_loopw [10,45] (fun pv iv wr=>∃ (k:Nat) (ps:List Part),k<=n/\iv= .int .i64 k/\Hid (ps.length=k+1)/\Hid (wr.ownsRow w2 28 1 pv (k+1) (ps.map Part.v))/\Hid (FrsAt wr w ps)/\Hid (ps.flatMap Part.ls=DO++BI bound (ls.take k))/\Hid (Below w2 w2 wr)) (fun _ iv _=>n-(intOf iv).toNat)
 case atStart=>exact⟨0,[⟨A2,c2,DO⟩],nB,rfl,rfl,aq.out,ae.out,ac.out,al.out⟩
 case round=>
  obtain⟨k,ps,hk,rfl,ar,HP,HF,HE,HB⟩:=hrel;clear aq ae ac al;obtain⟨wi,rfl⟩:=jc wr;have G:Hid (Below w w wi):=zZ HB.out ag.out.size ag.out;have hz:=HB.out.size;have af:=a0.out k;obtain⟨gp,cp,rfl⟩:=Ms HP.out;by_cases am:k<n
  ·exact absurd am (by have:=ay.out;omega)
  ·obtain rfl:k=n:=by omega
   have gk:=jb ((k:Int)<k);have bc:=jb (k<k);have j:ls.take k=ls:=Bp (by rw[a1.out];exact Am _);have L:=af;rw[j,<-aa.out]at HE;have E:FK ps<=1000000000:=(by unfold FK;rw[HE.out,aa.out,Aj];rw[j]at L;omega);have an:∀p∈ps,p.Ok wi:=fun p hp=>wZ (HF.out p hp) rfl;have ai:=(Ai HP.out gp rfl).2;have D:=hid (SU wi gp (k+1) cp ps ar.out nB E an ai (fun i hi=>by rw[(Lz.own_cells HP.out (by rw[<-ar.out];exact hi)).1,BR,AD hi];rfl));rw[HE.out]at D;clear j am af L E an ai HE;go_wp2_with fail;refine D.out.mono ?_;rintro e w9 ⟨v9,rfl,a3,ax⟩;go_wp2_with fail;go_ret2;exact⟨_,rfl,lZ a3 G.out.size,dZ ax G.out⟩
end Idx
namespace Body
open Go.RowKit Mem Go.Proofs.YtfgdoknipbpfhaaGreatDoor.Own Canon Recs
open NumPut
open Block (wZ)
theorem iQ(w:World)(db g cG cS x y base:Nat)(AG AS:Option Addr)(G S:List Nat)(hg:G.length=g)(hs:S.length=g)(aw:g<=20000)(hG:G.sum<=1000000000)(hS:∀z∈S,z<=1000000000)(hx:x<=1000000000)(hy:y<=1000000000)
 (hb:Blk w db 87 #[.slice AG g cG, .slice AS g cS, .int .i64 (x:Nat), .int .i64 (y:Nat)])(ab:Row w base AG g 1 (kZ .i64 G))(ai:Row w base AS g 1 (kZ .i64 S))(Y:base<=w.heap.size)(a9:g<=0):
 Calls prog 53 #[.pointer (some ⟨db,0,none⟩)] w fun e w'=>∃v,e= .returned v/\w'.ownsRow w 5 1 v (Dv G.sum G S x y).length (bZ .u8 (Dv G.sum G S x y))/\Below w w w':=by
 have DS:=hid (fun wx (h:Below w w wx)=>sum_any wx AG g cG G hg nB hG (((ab.mono Y).below h).mono h.size));have D1:=hid (fun wx=>Kw wx G.sum nB);have D2:=hid (fun wx=>Kw wx g nB);have l1:=sZ (x:=G.sum) nB;have l2:=sZ (x:=g) nB;have Q:Dv G.sum G S x y=gZ G.sum++(gZ g++(Bf G S++(gZ x++gZ y))):=by unfold Dv;rw[hg]
 obtain⟨s,Z⟩:=jc G.sum;rw[<-Z]at DS D1 l1 hG Q ⊢;have aj:=hid Q;have u1:IntKind.u64.wrap (s:Int)=(s:Int):=n4
 have u2:IntKind.u64.wrap (g:Int)=(g:Int):=n4
 have ac:∀z∈G,z<=1000000000:=fun z hz=>Bm (G4 hz) nB;have bb:=hid ac;have az:=hid hS;have HG:=hid hg;have HS:=hid hs;have a0:Hid (Row w base AG g 1 (kZ .i64 G)):=ab;have av:Hid (Row w base AS g 1 (kZ .i64 S)):=ai;have ah:=hid hb;have HC:Hid (∀wx,Below w w wx->wx.cell? ⟨db,0,none⟩=some (.slice AG g cG)):=fun wx h=>(hb.step h).cell 0;have bc:=hid Z;have c0:=hb.iy 0;have ax:=hb.lt;clear hg hs hS Q hb ab ai ac Z;generalize gZ s=N1 at *;generalize gZ g=N2 at *;have an:∀a1 a2 a3 a4,FK [(⟨a1,a2,N1⟩:Part),⟨a3,a4,N2⟩]<=1000000:=fun _ _ _ _=>by simp[FK];omega
 go_enter func53,ntmps53;go_upto_region 1 with fail;go_cut [3] (fun v wx=>Hid (wx.ownsRow w 5 1 v (N1.length+N2.length) (bZ .u8 (N1++N2)))/\Hid (Below w w wx))
 case first=>
  go_region_held3 (fun wx=>wx.cell? ⟨db,0,none⟩=some (.slice AG g cG)) (first|exact HC.out _ ((Ak _ _).drew)|(refine HC.out _ ?_;(repeat (with_reducible first|exact Ak _ _|assumption|refine Aw ?_ |refine below_drewN ?_ _|refine oZ ?_ |refine cZ ?_ |refine dZ jf ?_ |refine belA ?_ |refine pZ jf ?_)))) (first|(go_at_call 64;(with_reducible refine(DS.out _ qo).mono ?_);rintro e wF ⟨rfl,rfl⟩)|(go_at_call 99;first|((with_reducible refine(D1.out _).mono ?_);rintro e wA ⟨vA,rfl,i,ak⟩;obtain⟨AA,cA,rfl⟩:=aZ i;have PA:Part.Ok (⟨AA,cA,N1⟩:Part) wA:=wZ i rfl)|((with_reducible refine(D2.out _).mono ?_);rintro e wB ⟨vB,rfl,J,af⟩;obtain⟨AB,cB,rfl⟩:=aZ J;have PB:Part.Ok (⟨AB,cB,N2⟩:Part) wB:=wZ J rfl))|(go_at_call 55;(refine(O8 _ _ 2 [(⟨AA,cA,N1⟩:Part),(⟨AB,cB,N2⟩:Part)] rfl nB (an _ _ _ _) (fun p hp=>by{rcases BK.1 hp with rfl|hp;exact PA.step qo;rcases BK.1 hp with rfl|hp;exact PB.step qo;cases hp}) jj).mono ?_);rintro e w7 ⟨v7,rfl,j,L⟩;obtain⟨A7,c7,rfl⟩:=aZ j;have B7:Below w w w7:=dZ L qo))
  all_goals
   have N:Hid (w7.ownsRow w 5 1 (.slice A7 (N1.length+N2.length) c7) (N1.length+N2.length) (bZ .u8 (N1++N2))):=(by have h:=lZ j (show w.heap.size<=_ from Below.size qo);simp only[List.flatMap_cons,List.flatMap_nil,List.append_nil,List.length_append]at h;exact h);have U:=hid B7;go_wp2_with fail;go_meet
   case rel=>go_light;exact⟨N.out,U.out⟩
 case rest=>
  obtain⟨ag,M⟩:=hcut;have am:=HC.out _ M.out;clear c0;go_wp2_with fail;have ae:Hid (wc.ownsRow w 5 1 u3 (N1++N2++Bf (G.take 0) (S.take 0)).length (bZ .u8 (N1++N2++Bf (G.take 0) (S.take 0)))):=by have e:N1++N2++Bf (G.take 0) (S.take 0)=N1++N2:=(by simp[Bf]);show World.ownsRow _ _ _ _ _ _ _;rw[e,Aj];exact ag.out
  have al:Hid ((N1++N2++Bf (G.take 0) (S.take 0)).length<=20+20*0):=by show _<=_;simp[Bf];omega
  clear am ag;go_loopw [3,27] (fun ov iv wr=>∃k:Nat,k<=g/\iv= .int .i64 k/\Hid (wr.ownsRow w 5 1 ov (N1++N2++Bf (G.take k) (S.take k)).length (bZ .u8 (N1++N2++Bf (G.take k) (S.take k))))/\Hid ((N1++N2++Bf (G.take k) (S.take k)).length<=20+20*k)/\Hid (Below w w wr)) (fun _ iv _=>g-(intOf iv).toNat)
  case atStart=>exact⟨0,nB,rfl,ae.out,al.out,M.out⟩
  case round=>
   obtain⟨k,hk,rfl,HO,HL,HB⟩:=hrel;clear ae al M;obtain⟨wi,rfl⟩:=jc wr;have hz:=HB.out.size;by_cases aq:k<g
   ·exact absurd aq nB
   ·obtain rfl:k=g:=by omega
    have gk:=jb ((k:Int)<k);have ba:=jb (k<k);have eG:G.take k=G:=Bp (by rw[HG.out];exact Am _);have eS:S.take k=S:=Bp (by rw[HS.out];exact Am _);rw[eG,eS]at HO HL;obtain⟨A3,c3,rfl⟩:=aZ HO.out;have DA:=hid (fun wx=>Kw wx x nB);have DB:=hid (fun wx=>Kw wx y nB);have u3:IntKind.u64.wrap (x:Int)=(x:Int):=n4;have u4:IntKind.u64.wrap (y:Int)=(y:Int):=n4;have la:=sZ (x:=x) nB;have lb:=sZ (x:=y) nB;have aa:Hid (∀wx,Below wi wi wx->wx.cell? ⟨db,2,none⟩=some (.int .i64 (x:Nat))/\wx.cell? ⟨db,3,none⟩=some (.int .i64 (y:Nat))):=fun wx h=>⟨((ah.out.step HB.out).step h).cell 2,((ah.out.step HB.out).step h).cell 3⟩;have PO:Hid (∀wx,Below wi wi wx->Part.Ok (⟨A3,c3,N1++N2++Bf G S⟩:Part) wx):=fun wx hb=>(wZ HO.out rfl).step hb;generalize gZ x=NA at *;generalize gZ y=NB at *;have ay:=HL.out;have ar:Hid (Dv s G S x y=N1++N2++Bf G S++(NA++NB)):=(by show _=_;rw[aj.out];simp only[List.append_assoc]);generalize N1++N2++Bf G S=E at *;have au:∀a1 a2 a3 a4 a5 a6,FK [(⟨a1,a2,E⟩:Part),⟨a3,a4,NA⟩,⟨a5,a6,NB⟩]<=1000000:=fun _ _ _ _ _ _=>by simp[FK];omega
    clear eG eS aj;go_upto_region 7 with fail;go_region_held3 (fun wx=>wx.cell? ⟨db,2,none⟩=some (.int .i64 (x:Nat))/\wx.cell? ⟨db,3,none⟩=some (.int .i64 (y:Nat))) (first|exact aa.out _ ((Ak _ _).drew)|(refine aa.out _ ?_;(repeat (with_reducible first|exact Ak _ _|assumption|refine Aw ?_ |refine below_drewN ?_ _|refine oZ ?_ |refine cZ ?_ |refine dZ jf ?_ |refine belA ?_ |refine pZ jf ?_)))) (first|(go_at_call 99;first|((with_reducible refine(DA.out _).mono ?_);rintro e wA ⟨vA,rfl,i,ak⟩;obtain⟨AA,cA,rfl⟩:=aZ i;have PA:Part.Ok (⟨AA,cA,NA⟩:Part) wA:=wZ i rfl)|((with_reducible refine(DB.out _).mono ?_);rintro e wB ⟨vB,rfl,J,af⟩;obtain⟨AB,cB,rfl⟩:=aZ J;have PB:Part.Ok (⟨AB,cB,NB⟩:Part) wB:=wZ J rfl))|(go_at_call 55;(refine(O8 _ _ 3 [(⟨A3,c3,E⟩:Part),(⟨AA,cA,NA⟩:Part),(⟨AB,cB,NB⟩:Part)] rfl nB (au _ _ _ _ _ _) (fun p hp=>by{rcases BK.1 hp with rfl|hp;exact PO.out _ qo;rcases BK.1 hp with rfl|hp;exact PA.step qo;rcases BK.1 hp with rfl|hp;exact PB.step qo;cases hp}) jj).mono ?_);rintro e w7 ⟨v7,rfl,j,L⟩;obtain⟨A7,c7,rfl⟩:=aZ j;have B7:Below wi wi w7:=dZ L qo))
    all_goals
     have N:Hid (w7.ownsRow w 5 1 (.slice A7 (E.length+(NA.length+NB.length)) c7) (E.length+(NA.length+NB.length)) (bZ .u8 (E++(NA++NB)))):=(by have h:=lZ j (show w.heap.size<=_ from Bm hz (Below.size qo));simp only[List.flatMap_cons,List.flatMap_nil,List.append_nil,List.length_append]at h;exact h);have U:Hid (Below w w w7):=zZ B7 hz HB.out;clear j L PA PB B7 HO HB HL PO i J ak af aa;go_wp2_with fail;go_ret;exact⟨.slice A7 (E.length+(NA.length+NB.length)) c7,rfl,by rw[ar.out,Aj,Aj];exact N.out,U.out⟩
end Body
namespace Body
open Go.RowKit Mem Go.Proofs.YtfgdoknipbpfhaaGreatDoor.Own Canon NumPut Crc
open Recs Idx
open Block (wZ)
open Go.Proofs.YtfgdoknipbpfhaaGreatDoor.One (FrsAt FrsAt.step)
theorem cV(w:World)(n g base cF cG cc cx:Nat)(AF AG AC AX:Option Addr)(ps:List Part)(G CB IX:List Nat)(hn:n<=1000000)(hg:g<=20000)(df:ps.length=g)(cw:G.length=g)(dz:∀z∈G,z<=1000000)(dq:(ps.map Part.ls).flatten.length<=500000)(fy:CB.length<=900000)(fk:IX.length<=900000)(d3:∀x∈CB,x<=255)(dp:∀x∈IX,x<=255)
 (ho:w.ownsRow base 28 1 (.slice AF g cF) g (ps.map Part.v))(ej:FrsAt w base ps)(hG:Row w w AG g 1 (kZ .i64 G))(hC:Part.Ok (⟨AC,cc,CB⟩:Part) w)(hX:Part.Ok (⟨AX,cx,IX⟩:Part) w)(fp:g<=0):
 Calls prog 27 #[.int .i64 (n:Nat), .slice AF g cF, .slice AG g cG, .slice AC CB.length cc, .slice AX IX.length cx] w fun e w'=>∃v,e= .returned v/\w'.ownsRow w 5 1 v (CH n G (ps.map Part.ls) CB IX).length (bZ .u8 (CH n G (ps.map Part.ls) CB IX))/\Below w w w':=by
 obtain⟨j0,ae,Y,Q,ac⟩:=info_parts CW;have D1:=hid (fun wx=>Fx wx n nB);have D2:=hid (fun wx=>Fx wx g nB);have l1:=sZ (x:=n) nB;have l2:=sZ (x:=g) nB;have u1:IntKind.u64.wrap (n:Int)=(n:Int):=n4
 have u2:IntKind.u64.wrap (g:Int)=(g:Int):=n4
 obtain⟨SZ,bq⟩:=jc ((ps.map Part.ls).map List.length);have eu:SZ.length=g:=by rw[bq,Bk,Bk];exact df
 have cS:Hid (CH n G (ps.map Part.ls) CB IX=(ps.map Part.ls).flatten++(yZ CB++(yZ IX++(yZ (Dv n G SZ (yZ CB).length (yZ IX).length)++Cn (yZ (Dv n G SZ (yZ CB).length (yZ IX).length)).length)))):=by show _=_;unfold CH;rw[bq]
 have d0:Hid (∀x y,Dv n G SZ x y=gZ n++gZ g++Bf G SZ++(gZ x++gZ y)):=fun x y=>by unfold Dv;rw[cw];simp only[List.append_assoc]
 have eC:=hid df;have e7:=hid cw;have fa:=hid eu;have ft:=hid dz;have e9:=hid dq;have eL:=hid d3;have fd:=hid dp;have HO:=hid ho;have f2:=hid ej;have f0:Hid (Row w w AG g 1 (kZ .i64 G)):=hG;have HC:=hid hC;have HX:=hid hX;have e3:=hid bq;clear df cw eu dz dq d3 dp ho ej hG hC hX bq;go_enter func27,ntmps27;go_wp2_with fail;refine(D1.out _).mono ?_;rintro e w1 ⟨v1,rfl,di,dr⟩;have ea:Hid (JS w [] (gZ n) (.slice none 0 0) v1 w1):=⟨AE _ _ _ _,di,fun _ h=>jh⟩;obtain⟨A1,c1,rfl⟩:=aZ di;have HB:=hid dr;clear di dr D1;obtain⟨NA,cC⟩:=jc (gZ g);rw[<-cC]at D2 l2;have ex:=hid D2.out;have HJ:=hid ea.out;have eA:=hid cC;clear D2 ea cC;go_wp2_with fail;refine(ex.out _).mono ?_;rintro e wA ⟨vA,rfl,cB,c0⟩;obtain⟨AA,cA,rfl⟩:=aZ cB;have dn:Hid (Src wA AA NA.length cA 1 (bZ .u8 NA)):=Ck cB;have cE:=hid (HJ.out.step c0);have cr:Hid (Below w w wA):=zZ c0 HB.out.size HB.out;have ek:=cr.out.size;clear cB c0 ex HJ HB;go_wp2_with(at_builtin;refine fZ rfl (.tmp 21) (.tmp 25) 28 rfl w 5 j0 _ 1 1 underlying28 ae Y Q ac rfl ji _ _ _ nC cE.out.od _ _ _ _ nC dn.out (qZ _ _) qn nB ek ?_;intro v2 w2 Z du bW;have q:=cE.out.dirA ek du Z bW;obtain⟨A2,c2,rfl⟩:=aZ Z;have dd:=hid q.1;have dF:Hid (Below w w w2):=cr.out.trans q.2;clear q Z du bW cE dn cr);have aa:Hid (gZ n++NA=gZ n++gZ g++Bf (G.take 0) (SZ.take 0)):=by show _=_;rw[eA.out];simp[Bf]
 rw[aa.out]at dd;have ew:Hid (JS w ((ps.take 0).map Part.ls).flatten (gZ n++gZ g++Bf (G.take 0) (SZ.take 0)) (.slice none 0 0) (.slice A2 ((gZ n).length+NA.length) c2) w2):=dd.out;have b0:Hid ((gZ n++gZ g++Bf (G.take 0) (SZ.take 0)).length<=20+20*0):=by show _<=_;rw[<-aa.out,Aj];omega
 clear dd;go_wp2_with fail;go_loopw [11,12,13] (fun ov dv iv wr=>∃k:Nat,k<=g/\iv= .int .i64 k/\Hid (JS w ((ps.take k).map Part.ls).flatten (gZ n++gZ g++Bf (G.take k) (SZ.take k)) ov dv wr)/\Hid ((gZ n++gZ g++Bf (G.take k) (SZ.take k)).length<=20+20*k)/\Hid (Below w w wr)) (fun _ _ iv _=>g-(intOf iv).toNat)
 case atStart=>exact⟨0,nB,rfl,ew.out,b0.out,dF.out⟩
 case round=>
  obtain⟨k,hk,rfl,HJ,cH,HB⟩:=hrel;clear ew b0 dF aa;obtain⟨wi,rfl⟩:=jc wr;have hz:=HB.out.size;by_cases e6:k<g
  ·exact absurd e6 nB
  ·obtain rfl:k=g:=by omega
   have gk:=jb ((k:Int)<k);have fq:=jb (k<k);have eG:G.take k=G:=Bp (by rw[e7.out];exact Am _);have eS:SZ.take k=SZ:=Bp (by rw[fa.out];exact Am _);have eP:ps.take k=ps:=Bp (by rw[eC.out];exact Am _);rw[eG,eS]at HJ cH;rw[eP]at HJ;have fs:=cH.out;have fo:=e9.out;have bh:=hid (d0.out (yZ CB).length (yZ IX).length);have ee:=LP n G SZ (yZ CB).length (yZ IX).length;rw[Ce CB,Ce IX]at bh ee cS;generalize Dv n G SZ (CB.length+4) (IX.length+4)=DD at *;generalize gZ n++gZ k++Bf G SZ=DI at *;generalize (ps.map Part.ls).flatten=OU at *;obtain⟨Ao,co,rfl⟩:=aZ HJ.out.oo;obtain⟨Ad,cd,rfl⟩:=aZ HJ.out.od;have e5:=hid (HC.out);have E1:=hid (Ij wi AC CB.length cc CB rfl nB HC.out.nil eL.out ((HC.out.row.below HB.out).mono hz));have E2:=hid (fun wx (h:Below w w wx)=>Ij wx AX IX.length cx IX rfl nB HX.out.nil fd.out ((HX.out.row.below h).mono h.size));unfold Hb at E1 E2;obtain⟨cl,a1⟩:=jc (CB.length+4);obtain⟨il,a6⟩:=jc (IX.length+4);rw[<-a1]at E1 bh;rw[<-a6]at E2 bh;have fg:cl<=900004:=nB;have ff:il<=900004:=nB;have b9:=hid a1;have bU:=hid a6;clear eG eS eP cH a1 a6 d0 e3 e5;go_wp2_with fail;refine E1.out.mono ?_;rintro e w5 ⟨v5,rfl,bF,cT⟩;obtain⟨A5,c5,rfl⟩:=aZ bF;have bG:Hid (Below w w w5):=zZ cT hz HB.out;have cz:=hid (HJ.out.step cT);have eO:Hid (w5.ownsRow w 5 1 (.slice A5 cl c5) cl (bZ .u8 (yZ CB))):=lZ bF hz;have eg:Hid (JE w (.slice Ao OU.length co) (.slice Ad DI.length cd) (.slice A5 cl c5) cl (bZ .u8 (yZ CB)) w5):=JE.new HJ.out hz bF;have dt:=hid (E2.out w5 bG.out);have cp:=bG.out.size;clear bF cT E1 E2 HJ HB eO hz;go_wp2_with fail;refine dt.out.mono ?_;rintro e w6 ⟨v6,rfl,dc,bn⟩;obtain⟨A6,c6,rfl⟩:=aZ dc;have cy:Hid (Below w w w6):=zZ bn cp bG.out;have eh:Hid (JE w (.slice Ao OU.length co) (.slice Ad DI.length cd) (.slice A6 il c6) il (bZ .u8 (yZ IX)) w6):=JE.new cz.out cp dc;have bX:=hid (eg.out.step bn);have el:=hid (cz.out.step bn);have ep:=cy.out.size;have eo:=hid (fun wx=>Fx wx cl nB);have ds:=hid (fun wx=>Fx wx il nB);have la:=sZ (x:=cl) nB;have lb:=sZ (x:=il) nB;have u3:IntKind.u64.wrap (cl:Int)=(cl:Int):=n4;have u4:IntKind.u64.wrap (il:Int)=(il:Int):=n4;generalize gZ cl=N1 at *;generalize gZ il=N2 at *;clear dc bn dt cz bG eg cp;go_wp2_with fail;refine(eo.out _).mono ?_;rintro e w7 ⟨v7,rfl,c4,ax⟩;obtain⟨A7,c7,rfl⟩:=aZ c4;have bj:Hid (Src w7 A7 N1.length c7 1 (bZ .u8 N1)):=Ck c4;have cP:=hid (el.out.step ax);have ci:=hid (bX.out.step ax);have b4:=hid (eh.out.step ax);have dk:Hid (Below w w w7):=zZ ax ep cy.out;have c3:=dk.out.size;clear c4 ax eo el bX eh cy ep;go_wp2_with(at_builtin;refine fZ rfl (.tmp 60) (.tmp 64) 28 rfl w 5 j0 _ 1 1 underlying28 ae Y Q ac rfl ji _ _ _ nC cP.out.od _ _ _ _ nC bj.out (qZ _ _) qn nB c3 ?_;intro v8 w8 ab bC ag;have ca:=hid (ci.out.dirA bC ag);have ce:=hid (b4.out.dirA bC ag);have q8:=cP.out.dirA c3 bC ab ag;obtain⟨A8,c8,rfl⟩:=aZ ab;have dy:=hid q8.1;have ct:Hid (Below w w w8):=dk.out.trans q8.2;have en:=ct.out.size;clear q8 ab bC ag;skip);have fe:(DI++N1).length<=400030:=nU;clear bj cP ci b4 dk c3;refine(ds.out _).mono ?_;rintro e w9 ⟨v9,rfl,cu,ar⟩;obtain⟨A9,c9,rfl⟩:=aZ cu;have ef:Hid (Src w9 A9 N2.length c9 1 (bZ .u8 N2)):=Ck cu;have cL:=hid (dy.out.step ar);have b7:=hid (ca.out.step ar);have b8:=hid (ce.out.step ar);have dh:Hid (Below w w w9):=zZ ar en ct.out;have dm:=dh.out.size;clear cu ar ds dy ca ce ct en;go_wp2_with(at_builtin;refine fZ rfl (.tmp 66) (.tmp 70) 28 rfl w 5 j0 _ 1 1 underlying28 ae Y Q ac rfl ji _ _ _ nC cL.out.od _ _ _ _ nC ef.out (qZ _ _) qn nB dm ?_;intro fm da L ah M;have aw:=hid (b7.out.dirA ah M);have bc:=hid (b8.out.dirA ah M);have dg:=cL.out.dirA dm ah L M;obtain⟨bu,bt,rfl⟩:=aZ L;have af:=hid dg.1;have av:Hid (Below w w da):=dh.out.trans dg.2;have a0:=av.out.size;clear dg L ah M;skip);clear ef cL b7 b8 dh dm;have cX:DD=DI++N1++N2:=(by rw[bh.out,AK]);have al:DD.length=DI.length+N1.length+N2.length:=(by rw[cX,Aj,Aj]);have od:=af.out.od;rw[<-cX]at od;have bM:=od;rw[al]at bM;simp only[List.length_append]at bM;have de:Part.Ok (⟨bu,bt,DD⟩:Part) da:=(by have h:=wZ (A:=bu) (c:=bt) (ls:=DD) (n:=DI.length+N1.length+N2.length) bM al;exact h);have bm:=hid (Ij da bu (DI.length+N1.length+N2.length) bt DD al nB (fun e=>by have h:=de.nil e;exact⟨by rw[<-al];exact h.1,h.2⟩) ee (by have h:=de.row;simp only[al]at h;exact h));unfold Hb at bm;obtain⟨dl,ay⟩:=jc (DD.length+4);rw[<-ay]at bm;have fh:dl<=400060:=nB;have b5:=hid ay;clear cX al od bM de ay bh;refine bm.out.mono ?_;rintro e cq ⟨fx,rfl,bb,N⟩;obtain⟨eb,dw,rfl⟩:=aZ bb;have cf:Hid (JE w (.slice Ao OU.length co) (.slice bu ((DI++N1).length+N2.length) bt) (.slice eb dl dw) dl (bZ .u8 (yZ DD)) cq):=JE.new af.out a0 bb;have an:=hid (aw.out.step N);have am:=hid (bc.out.step N);have a9:=hid (af.out.step N);have a5:Hid (Below w w cq):=zZ N a0 av.out;have bN:=a5.out.size;have d4:Hid (Src cq A5 cl c5 1 (bZ .u8 (yZ CB))):=Ck an.out.own;have fl:(OU++yZ CB).length<=1500000:=(by rw[Aj,Ce,<-b9.out];omega);have f1:(OU++yZ CB++yZ IX).length<=2500000:=(by rw[Aj,Ce,<-bU.out];omega);have fu:(OU++yZ CB++yZ IX++yZ DD).length<=3000000:=(by rw[Aj,Ce,<-b5.out];omega);have f5:(yZ CB).length=cl:=(by rw[Ce,b9.out]);have f6:(yZ IX).length=il:=(by rw[Ce,bU.out]);have f7:(yZ DD).length=dl:=(by rw[Ce,b5.out]);have eV:=hid f5;have eE:=hid f6;have et:=hid f7;generalize yZ CB=KC at *;generalize yZ IX=KX at *;generalize yZ DD=KD at *;clear bb N bm af aw bc av a0 f5 f6 f7;go_wp2_with(first|(at_builtin;refine fZ rfl (.tmp 73) (.tmp 74) 28 rfl w 5 j0 _ 1 1 underlying28 ae Y Q ac rfl ji _ _ _ nC a9.out.oo _ _ _ _ nC d4.out (qZ _ _) qn nB bN ?_;intro fA ei j ai J;rw[<-eV.out]at j;have bk:=hid (am.out.outA ai J);have ak:=hid (cf.out.outA ai J);have es:Src ei A6 il c6 1 (bZ .u8 KX):=Ck bk.out.own;have dj:=a9.out.outA bN ai j J;obtain⟨fw,fj,rfl⟩:=aZ j;have bf:=dj.1;(try simp only[List.length_append]at bf);have bd:=hid bf;clear bf;have az:Hid (Below w w ei):=a5.out.trans dj.2;have bS:=az.out.size;clear dj j ai J;skip)|(at_builtin;refine fZ rfl (.tmp 76) (.tmp 77) 28 rfl w 5 j0 _ 1 1 underlying28 ae Y Q ac rfl ji _ _ _ nC bd.out.oo _ _ _ _ nC es (qZ _ _) qn nB bS ?_;intro fz dx i bl U;rw[<-eE.out]at i;have aj:=hid (ak.out.outA bl U);have bj:Src dx eb dl dw 1 (bZ .u8 KD):=Ck aj.out.own;have cm:=bd.out.outA bS bl i U;obtain⟨fH,fn,rfl⟩:=aZ i;have a3:=cm.1;(try simp only[List.length_append]at a3);have a4:=hid a3;clear a3;have bi:Hid (Below w w dx):=az.out.trans cm.2;have bO:=bi.out.size;clear cm i bl U;skip)|(at_builtin;refine fZ rfl (.tmp 79) (.tmp 80) 28 rfl w 5 j0 _ 1 1 underlying28 ae Y Q ac rfl ji _ _ _ nC a4.out.oo _ _ _ _ nC bj (qZ _ _) qn nB bO ?_;intro fB ec E cg bg;rw[<-et.out]at E;have cv:=a4.out.outA bO cg E bg;obtain⟨eH,eW,rfl⟩:=aZ E;have au:=cv.1;(try simp only[List.length_append]at au);have b1:=hid au;clear au;have ba:Hid (Below w w ec):=bi.out.trans cv.2;have ed:=ba.out.size;clear cv E cg bg;skip));have eB:Hid (CH n G (ps.map Part.ls) CB IX=OU++KC++KX++KD++Cn dl):=(by show _=_;rw[cS.out,et.out];simp only[List.append_assoc]);have ev:=hid (Vx ec dl nB);have u5:IntKind.u64.wrap (dl:Int)=(dl:Int):=n4;clear a9 bd a4 a5 az bi cf an am bk ak aj d4 es bj cS;refine ev.out.mono ?_;rintro e cJ ⟨fi,rfl,be,aq⟩;obtain⟨ez,fc,rfl⟩:=aZ be;have dC:Hid (Src cJ ez 4 fc 1 (bZ .u8 (Cn dl))):=Ck be;have ch:=hid (b1.out.step aq);have cj:Hid (Below w w cJ):=zZ aq ed ba.out;have b3:=cj.out.size;clear be aq ev b1 ba;have b6:Hid (cJ.ownsRow w 5 1 (.slice eH (OU.length+(KC.length+KX.length)+KD.length) eW) (OU++KC++KX++KD).length (bZ .u8 (OU++KC++KX++KD))):=(by have h:=ch.out.oo;show World.ownsRow _ _ _ _ _ _ _;rw[show OU.length+(KC.length+KX.length)+KD.length=OU.length+KC.length+KX.length+KD.length by omega];exact h);clear ch;go_wp2_with(at_builtin;refine fZ rfl (.tmp 89) (.tmp 90) 28 rfl w 5 j0 _ 1 1 underlying28 ae Y Q ac rfl ji _ _ _ nC b6.out _ _ _ _ nC dC.out (qZ _ _) qn nB b3 ?_;intro e0 e8 bp ey e4);have em:Hid (Below w w e8):=cj.out.grown ey b3 (fun y hy=>(Ai b6.out y hy).1);go_ret;refine⟨e0,rfl,?_,em.out⟩;rw[eB.out];have e1:(OU++KC++KX++KD++Cn dl).length=(OU++KC++KX++KD).length+4:=(by rw[Aj];rfl);have e2:bZ .u8 (OU++KC++KX++KD++Cn dl)=bZ .u8 (OU++KC++KX++KD)++bZ .u8 (Cn dl):=p7;rw[e1,e2];exact bp
end Body
namespace Body
open Go.RowKit Mem Go.Proofs.YtfgdoknipbpfhaaGreatDoor.Own Canon NumPut Crc
open Recs Opts Idx
open Block (Cs Im wZ)
open Go.Proofs.YtfgdoknipbpfhaaGreatDoor.One (FrsAt FrsAt.step FrsAt.grown FrsAt.snoc Gv Hn NS Na NE IW KQ)
open Idx (Np)
theorem YU(w:World)(o:Opt)(A:Option Addr)(n c:Nat)(l:List Rec)(ho:De o=0)(hn:l.length=n)(hN:n<=1000)(ah:∀r∈l,CA r)(hk:DQ l=0)(hb:(Bi false l).length<=16000)(hT:(AW (l.map jZ)).length<=20000)(dq:(ixR o l).length<=99000)(ht:TabAt w)(dy:(tZ o l).length=0)(c1:n<=0)(ha:Row w w A n 4 (Cp l)):
 Calls prog 12 #[o.val, .slice A n c] w (Oy o l w):=by
 have dv:=hid dy;clear dy;obtain⟨j0,fc,eV,eA,e4⟩:=info_parts IW;obtain⟨i0,fy,fu,ft,fq⟩:=info_parts Ef.Rh;have am:=Hn hk;obtain⟨ez,ey,eH,eO⟩:=JD ho;have ec:=Jc o l;have d3:=Je o l;have ep:∀x∈tZ o l,1<=x:=One.Lu _ _;rw[hn]at ec;obtain⟨blk,pl,bu,da,pa,ch⟩:=o;simp only at ez ey eH eO;obtain⟨S,rfl⟩:=If (show 0<=blk by omega);obtain⟨BU,rfl⟩:=If (show 0<=bu by omega);have D1:=hid (fun wx=>Ry wx ⟨(S:Nat),pl,(BU:Nat),da,pa,ch⟩);rw[ho]at D1;have D2:=hid (fun wx (hx:Below w w wx)=>Sl wx A n c l hn nB ((ha.below hx).mono hx.size));rw[hk]at D2;have D3:=hid (fun wx (hx:Below w w wx)=>cO wx S A n c l hn c1);have DC:=hid (fun wx (hx:Below w w wx)=>fW wx A n c l hn c1);have b4:∀r∈l,r.source.size<=50000/\r.text.size<=50000:=fun r hr=>by obtain⟨a,b⟩:=Hp (am r hr);omega
 have DB:=hid (fun wx (hx:Below w w wx)=>Np wx A n c l hn nB b4 ((ha.below hx).mono hx.size));unfold IA at DB;have a1:=Kx l;have e3:(AW (l.map jZ)).length<=0:=by obtain rfl:l= []:=LL.1 nB;simp[AW]
 have DX:=hid (fun wx base vT vL vals (h:IxAt wx base vT vL vals (AW (l.map jZ)) ((AW (l.map jZ)).map (BP (l.map jZ))))=>dY wx BU n base vT vL vals (AW (l.map jZ)) ((AW (l.map jZ)).map (BP (l.map jZ))) nB nB nB hT (by rw[Bk]) (Ld nB) (fun x hx=>(a1.2 x hx).1) (by rw[<-hn];exact a1.1) h e3);have b9:ixR ⟨(S:Nat),pl,(BU:Nat),da,pa,ch⟩ l=ixO BU n (AW (l.map jZ)) ((AW (l.map jZ)).map (BP (l.map jZ))):=by unfold ixR;rw[hn];rfl
 rw[<-b9]at DX;unfold JL at D3;unfold Jd at DC;have eu:Fo S (Eb false l)=tZ ⟨(S:Nat),pl,(BU:Nat),da,pa,ch⟩ l:=rfl;rw[eu]at D3;unfold Oy Opt.val;unfold Opt.val at D1;simp only at D1 ⊢;have cX:Hid (H4 ⟨(S:Nat),pl,(BU:Nat),da,pa,ch⟩ l=CH n (tZ ⟨(S:Nat),pl,(BU:Nat),da,pa,ch⟩ l) (BV false pl (tZ ⟨(S:Nat),pl,(BU:Nat),da,pa,ch⟩ l) l) (BW l) (ixR ⟨(S:Nat),pl,(BU:Nat),da,pa,ch⟩ l)):=by show _=_;unfold H4;rw[hn]
 have e8:=J9 ah nB;rw[hn]at e8;have dt:=N9 ah;have cj:=gD ⟨(S:Nat),pl,(BU:Nat),da,pa,ch⟩ l;have bF:=Jg false pl (tZ ⟨(S:Nat),pl,(BU:Nat),da,pa,ch⟩ l) l hb;generalize H4 ⟨(S:Nat),pl,(BU:Nat),da,pa,ch⟩ l=MB at *;generalize tZ ⟨(S:Nat),pl,(BU:Nat),da,pa,ch⟩ l=G at *;generalize ixR ⟨(S:Nat),pl,(BU:Nat),da,pa,ch⟩ l=IX at *;generalize BW l=CB at *;generalize AW (l.map jZ)=TS at *;generalize TS.map (BP (l.map jZ))=LS at *;obtain⟨g,hg⟩:=jc G.length;rw[<-hg]at D3 ec bF;obtain⟨FR,dc⟩:=jc (BV false pl G l);rw[<-dc]at cX bF;have e0:=hid dc;have aj:=hid hg;have dg:=hid d3;have fd:=hid ep;have HT:=hid ht;have fw:=hid ah;have fm:=hid am;have HN:=hid hn;have eE:=hid dt;have en:=hid bF;have ek:=hid dq;have dj:=hid cj;have fj:Hid (Row w w A n 4 (Cp l)):=ha;clear c1 ho hk eu hg d3 ep ht ah am dc b4 a1 b9 dt bF hn dq ha hT cj;go_enter func12,ntmps12;go_wp2_with fail;have bU:Blk (w.alloc (.cells #[S,pl,BU,da,pa,ch] 23)) w 23 #[S,pl,BU,da,pa,ch]:=Blk.made _ _ _;have bS:Below w w (w.alloc (.cells #[S,pl,BU,da,pa,ch] 23)):=cZ (Ak _ _);have eP:(w.alloc (.cells #[S,pl,BU,da,pa,ch] 23)).heap.size=w.heap.size+1:=pR
 generalize w.alloc (.cells #[S,pl,BU,da,pa,ch] 23)=wa at *;have fe:w.heap.size<wa.heap.size:=nB
 have fx:=hid bS;have HS:Hid (∀wx,Below wa wa wx->wx.cell? ⟨w,0,none⟩=some (.int .i64 S)/\wx.cell? ⟨w,1,none⟩=some (.bool pl)/\wx.cell? ⟨w,2,none⟩=some (.int .i64 BU)):=fun wx h=>⟨(bU.step h).cell 0,(bU.step h).cell 1,(bU.step h).cell 2⟩;have cJ:Hid (∀wx,Below wa wa wx->Below w w wx):=fun wx h=>bS.trans (h.mono bS.size);clear bU bS eP;refine(D1.out _).mono ?_;rintro e w1 ⟨rfl,bg⟩;have B1:=hid bg;have E2:=hid (D2.out w1 (cJ.out _ bg));clear bg D1 D2;go_wp2_with fail;refine E2.out.mono ?_;rintro e w2 ⟨rfl,ca⟩;have B2:Hid (Below wa wa w2):=dZ ca B1.out;have E3:=hid (D3.out w2 (cJ.out _ B2.out));have k0:=(HS.out w2 B2.out).1;clear ca E2 D3 B1;go_wp2_with fail;refine E3.out.mono ?_;rintro e w3 ⟨vG,rfl,aw,cp⟩;obtain⟨AG,cG,rfl⟩:=aZ aw;have B3:Hid (Below wa wa w3):=dZ cp B2.out;have dp:=hid (lZ aw B2.out.size);clear cp aw E3 B2 k0;have cz:Blk (w3.alloc (.cells #[.slice AG g cG,(),jd,jd] 87)) w3 87 #[.slice AG g cG,(),jd,jd]:=Blk.made _ _ _;have d0:=cz.iy 0;have ee:Below w3 w3 (w3.alloc (.cells #[.slice AG g cG,(),jd,jd] 87)):=cZ (Ak _ _);have eb:Hid (MSt w3 w3 (.slice AG g cG) (.slice none 0 0) (.slice none 0 0) [] (w3.alloc (.cells #[.slice AG g cG,(),jd,jd] 87))):=⟨cz,AE _ _ _ _,(fun p hp=>by cases hp),AE _ _ _ _,Am _⟩;go_wp2_with fail;have df:=hid ee;clear cz ee d0;generalize w3.alloc (.cells #[.slice AG g cG,(),jd,jd] 87)=wd at *;have L:Hid (Below w w w3):=cJ.out _ B3.out;go_loopw [9,10,39] (fun pv av iv wx=>∃ (k at_:Nat) (ps:List Part) (vS:Value),k<=g/\at_<=n/\iv= .int .i64 k/\av= .int .i64 at_/\Hid (ps.map Part.ls++BV false pl (G.drop k) (l.drop at_)=FR)/\Hid (ps.length=k)/\Hid (at_+(G.drop k).sum=n)/\Hid (MSt w3 w3 (.slice AG g cG) pv vS ps wx)/\Hid (Below w3 w3 wx)) (fun _ _ iv _=>g-(intOf iv).toNat)
 case atStart=>exact⟨0,0,[],_,nB,nB,rfl,rfl,e0.out.symm,rfl,by show _=_;rw[Ie,dg.out,HN.out];omega,eb.out,df.out⟩
 case round=>
  obtain⟨k,at_,ps,vS,fk,fp,rfl,rfl,HF,bN,eB,HM,HB⟩:=hrel;clear eb df;have hz:=HB.out.size;have bq:=HM.out.pr;have bC:=HM.out.sr;rw[bN.out]at bq bC;obtain⟨AP,cP,rfl⟩:=aZ bq;obtain⟨AS,cS,rfl⟩:=aZ bC;clear bq bC;by_cases e1:k<g
  ·exact absurd e1 (by have h1:=aj.out;have h2:=dv.out;omega)
  ·obtain rfl:k=g:=by omega
   have gk:=jb ((k:Int)<k);have fn:=jb (k<k);have hf:=HF.out;rw[CF (by rw[<-aj.out];exact Am _),BV,Cx]at hf;have ev:=hid hf;have em:Hid (Below w w wr):=L.out.trans (HB.out.mono L.out.size);have E4:=hid (DC.out wr em.out);clear hf HF eB;go_wp2_with fail;refine E4.out.mono ?_;rintro e w4 ⟨v4,rfl,cr,au⟩;obtain⟨A4,c4,rfl⟩:=aZ cr;have P4:Hid (Part.Ok (⟨A4,c4,CB⟩:Part) w4):=wZ cr rfl;have cx:Hid (Below w w w4):=dZ au em.out;have ew:=hid (HM.out.step au);have bW:Hid (Below w3 w3 w4):=zZ au hz HB.out;have E5:=hid (Qa w4 A4 CB.length c4 CB rfl nB P4.out.nil eE.out (HT.out.step cx.out) P4.out.row);unfold Hb at E5;obtain⟨cl,a9⟩:=jc (CB.length+4);rw[<-a9]at E5;have du:=hid a9;have fg:cl<=30000:=nB;clear cr au E4 DC a9 HM HB P4;go_wp2_with fail;refine E5.out.mono ?_;rintro e w5 ⟨v5,rfl,ay,b0⟩;obtain⟨A5,c5,rfl⟩:=aZ ay;have ct:Hid (Below w w w5):=dZ b0 cx.out;have dz:=hid (ew.out.step b0);have af:Hid (Below w3 w3 w5):=zZ b0 bW.out.size bW.out;have ai:Hid (w5.ownsRow w3 5 1 (.slice A5 cl c5) cl (bZ .u8 (yZ CB))):=lZ ay bW.out.size;have cB:Hid (∀wx,Below w3 w3 wx->wx.cell? ⟨w,2,none⟩=some (.int .i64 BU)):=fun wx h=>(HS.out wx (dZ h B3.out)).2.2;have kp:=cB.out w5 af.out;clear ay b0 E5 ew bW cx;go_upto_region 21 with fail;go_region_held3 (fun wx=>wx.cell? ⟨w,2,none⟩=some (.int .i64 BU)) (first|exact kp|exact dF|exact dw) (first|(go_at_call 52;(with_reducible refine(DB.out _ (Aw ct.out)).mono ?_);rintro e wA ⟨vT,vL,vals,rfl,de,ed⟩;have BA:Below w5 w5 wA:=dZ ed (Aw (Ak _ _));have dF:=cB.out wA (zZ BA af.out.size af.out))|(go_at_call 51;(with_reducible refine(DX.out _ _ _ _ _ de).mono ?_);rintro e w6 ⟨v6,rfl,c0,dk⟩;obtain⟨A6,c6,rfl⟩:=aZ c0;have B6:Below w5 w5 w6:=dZ dk BA;have dw:=cB.out w6 (zZ B6 af.out.size af.out)))
   all_goals
    have P6:Hid (Part.Ok (⟨A6,c6,IX⟩:Part) w6):=wZ c0 rfl;have dx:=hid (dz.out.step B6);have bO:Hid (Below w3 w3 w6):=zZ B6 af.out.size af.out;have cC:Hid (Below w w w6):=dZ B6 ct.out;have bk:Hid (w6.ownsRow w3 5 1 (.slice A5 cl c5) cl (bZ .u8 (yZ CB))):=eZ ai.out fun y hy=>B6.block y (Ai ai.out y hy).2;have E7:=hid (Qa w6 A6 IX.length c6 IX rfl (by have:=ek.out;omega) P6.out.nil dj.out (HT.out.step cC.out) P6.out.row);unfold Hb at E7;obtain⟨il,cA⟩:=jc (IX.length+4);rw[<-cA]at E7;have d4:=hid cA;have ff:il<=99004:=(by have:=ek.out;omega);clear de ed BA dF c0 dk B6 dw kp cA ai af ct dz P6;go_wp2_with fail;refine E7.out.mono ?_;rintro e w7 ⟨v7,rfl,ax,a5⟩;obtain⟨A7,c7,rfl⟩:=aZ ax;have U:=hid (dx.out.step a5);have c8:Hid (Below w3 w3 w7):=zZ a5 bO.out.size bO.out;have eg:Hid (Below w w w7):=dZ a5 cC.out;have a0:Hid (w7.ownsRow w3 5 1 (.slice A7 il c7) il (bZ .u8 (yZ IX))):=lZ ax bO.out.size;have b6:Hid (w7.ownsRow w3 5 1 (.slice A5 cl c5) cl (bZ .u8 (yZ CB))):=eZ bk.out fun y hy=>a5.block y (Ai bk.out y hy).2;have cd:Hid (w7.ownsRow wa 3 1 (.slice AG k cG) k (bZ .i64 G)):=eZ dp.out fun y hy=>c8.out.block y (Ai dp.out y hy).2;have ea:=U.out.dir.iy 2;have et:=U.out.dir.iy 3;have eL:=U.out.dir.frozen 2;have e6:=U.out.dir.frozen 3;clear ax a5 E7 dx bO cC bk;go_wp2_with fail;obtain⟨dC,bb,ag⟩:=U.out.stores (.int .i64 (cl:Nat)) (.int .i64 (il:Nat));have ay:=ag b6.out ji;have ax:=ag a0.out ji;have aw:=ag cd.out ji;have cH:=ag U.out.pr ji;have bG:=ag U.out.sr ji;have ds:FrsAt _ w3 ps:=fun p hp=>ag (U.out.fr p hp) ji;have es:=c8.out.trans bb;have dn:=eg.out.trans (bb.mono L.out.size);rw[bN.out]at cH bG;clear ag bb b6 a0 cd U c8 eg ea et eL e6;generalize (w7.setCell ⟨w3,2,none⟩ (.int .i64 (cl:Nat))).setCell ⟨w3,3,none⟩ (.int .i64 (il:Nat))=w8 at *;obtain⟨SZ,b1⟩:∃SZ,SZ=ps.map (fun p=>p.ls.length):=⟨_,rfl⟩;rw[<-b1]at bG;have c2:SZ.length=k:=(by rw[b1,Bk];exact bN.out);have cE:FR.map List.length=SZ:=(by rw[<-ev.out,b1,List.map_map];rfl);have cT:∀z∈SZ,z<=1000000000:=fun z hz=>by rw[<-cE]at hz;obtain⟨f,hf,rfl⟩:=Cl.1 hz;have h1:=One.QJ hf;have h2:=en.out;omega
    have ei:G.sum=n:=dg.out.trans HN.out;have E9:=hid (iQ w8 w3 k cG cS cl il w8 AG AS G SZ aj.out.symm c2 nB nB cT nB nB dC (Ef.own_row aw aj.out.symm) (Ef.own_row bG c2) (Am _) (by have h1:=aj.out;have h2:=dv.out;omega));rw[ei]at E9;have eG:=LQ (n:=n) (G:=G) (S:=SZ) (x:=cl) (y:=il) nB (by rw[<-aj.out];omega) (fun z hz=>by have:=G4 hz;omega) cT nB nB;have ej:=LP n G SZ cl il;rw[<-aj.out]at eG;have HJ:Hid (MB=FR.flatten++(yZ CB++(yZ IX++(yZ (Dv n G SZ cl il)++Cn (yZ (Dv n G SZ cl il)).length)))):=(by show _=_;rw[cX.out];unfold CH;rw[cE,Ce CB,Ce IX,<-du.out,<-d4.out]);generalize Dv n G SZ cl il=DI at *;have ai:=hid ay;have a0:=hid ax;have cu:=hid cH;have ci:=hid ds;have cv:=hid es;have dm:=hid dn;have eW:=hid ej;clear ay ax aw cH bG ds es dn b1 c2 cE cT ei dC ej cX;refine E9.out.mono ?_;rintro e w9 ⟨v9,rfl,cw,aa⟩;obtain⟨A9,c9,rfl⟩:=aZ cw;have P9:Hid (Part.Ok (⟨A9,c9,DI⟩:Part) w9):=wZ cw rfl;have b3:Hid (Below w3 w3 w9):=zZ aa cv.out.size cv.out;have cL:Hid (Below w w w9):=dZ aa dm.out;have bM:=hid (Qa w9 A9 DI.length c9 DI rfl nB P9.out.nil eW.out (HT.out.step cL.out) P9.out.row);unfold Hb at bM;obtain⟨dl,cF⟩:=jc (DI.length+4);rw[<-cF]at bM;have fa:=hid cF;have fh:dl<=30000:=nB;have eS:∀y,y<w8.heap.size->w9.heap[y]? =w8.heap[y]? :=aa.block;have bd:Hid (w9.ownsRow w3 5 1 (.slice A5 cl c5) cl (bZ .u8 (yZ CB))):=eZ ai.out fun y hy=>aa.block y (Ai ai.out y hy).2;have ba:Hid (w9.ownsRow w3 5 1 (.slice A7 il c7) il (bZ .u8 (yZ IX))):=eZ a0.out fun y hy=>aa.block y (Ai a0.out y hy).2;have bc:Hid (w9.ownsRow w3 28 1 (.slice AP k cP) k (ps.map Part.v)):=eZ cu.out fun y hy=>aa.block y (Ai cu.out y hy).2;have cm:Hid (FrsAt w9 w3 ps):=ci.out.step aa;clear cw aa E9 cF ai a0 cu ci eS cv dm P9;go_wp2_with fail;refine bM.out.mono ?_;rintro e ae ⟨fl,rfl,bm,M⟩;obtain⟨Z,Y,rfl⟩:=aZ bm;have aq:Hid (Below w3 w3 ae):=zZ M b3.out.size b3.out;have cq:Hid (Below w w ae):=dZ M cL.out;have dh:=hid (WN ae dl nB);have u9:IntKind.u64.wrap (dl:Int)=(dl:Int):=n4;have a3:Hid (ae.ownsRow w3 5 1 (.slice Z dl Y) dl (bZ .u8 (yZ DI))):=lZ bm b3.out.size;have an:Hid (ae.ownsRow w3 5 1 (.slice A5 cl c5) cl (bZ .u8 (yZ CB))):=eZ bd.out fun y hy=>M.block y (Ai bd.out y hy).2;have al:Hid (ae.ownsRow w3 5 1 (.slice A7 il c7) il (bZ .u8 (yZ IX))):=eZ ba.out fun y hy=>M.block y (Ai ba.out y hy).2;have ak:Hid (ae.ownsRow w3 28 1 (.slice AP k cP) k (ps.map Part.v)):=eZ bc.out fun y hy=>M.block y (Ai bc.out y hy).2;have bp:Hid (FrsAt ae w3 ps):=cm.out.step M;clear bm M bM bd ba bc cm b3 cL;go_wp2_with fail;refine dh.out.mono ?_;rintro e E ⟨fo,rfl,bi,j⟩;obtain⟨ac,ab,rfl⟩:=aZ bi;have ce:Hid (Below w3 w3 E):=zZ j aq.out.size aq.out;have fi:Hid (Below w w E):=dZ j cq.out;have cg:Hid (E.ownsRow w3 5 1 (.slice ac 4 ab) 4 (bZ .u8 (Cn dl))):=lZ bi aq.out.size;have ar:Hid (E.ownsRow w3 5 1 (.slice Z dl Y) dl (bZ .u8 (yZ DI))):=eZ a3.out fun y hy=>j.block y (Ai a3.out y hy).2;have bh:Hid (E.ownsRow w3 5 1 (.slice A5 cl c5) cl (bZ .u8 (yZ CB))):=eZ an.out fun y hy=>j.block y (Ai an.out y hy).2;have bn:Hid (E.ownsRow w3 5 1 (.slice A7 il c7) il (bZ .u8 (yZ IX))):=eZ al.out fun y hy=>j.block y (Ai al.out y hy).2;have Q:Hid (E.ownsRow w3 28 1 (.slice AP k cP) k (ps.map Part.v)):=eZ ak.out fun y hy=>j.block y (Ai ak.out y hy).2;have bf:Hid (FrsAt E w3 ps):=bp.out.step j;have b8:=ce.out.size;clear bi j dh a3 an al ak bp aq cq;go_wp2_with(at_builtin;have q1:=Q.out.alloc (.cells #[.slice A5 cl c5, .slice A7 il c7, .slice Z dl Y, .slice ac 4 ab] 28);have q2:=(Src.of_blk (w:=E.alloc (.cells #[.slice A5 cl c5, .slice A7 il c7, .slice Z dl Y, .slice ac 4 ab] 28)) (g:=E.heap.size) (Blk.made E 28 #[.slice A5 cl c5, .slice A7 il c7, .slice Z dl Y, .slice ac 4 ab]) 4 4 1 rfl);have q3:w3.heap.size<=(E.alloc (.cells #[.slice A5 cl c5, .slice A7 il c7, .slice Z dl Y, .slice ac 4 ab] 28)).heap.size:=Bm b8 pR;refine fZ rfl (.tmp 107) (.tmp 112) 59 rfl w3 28 j0 _ 1 24 underlying59 fc eV eA e4 rfl ji _ _ _ nC q1 _ _ _ _ nC q2 m9 qn nB q3 ?_;intro fs bX J N cy;obtain⟨di,ex,rfl⟩:=Ms J);have az:=Q.out.alloc (.cells #[.slice A5 cl c5, .slice A7 il c7, .slice Z dl Y, .slice ac 4 ab] 28);have r5:=Gv (bh.out.alloc _) az ji N;have r7:=Gv (bn.out.alloc _) az ji N;have c3:=Gv (ar.out.alloc _) az ji N;have eh:=Gv (cg.out.alloc _) az ji N;have dr:FrsAt bX w3 ps:=(bf.out.step (cZ (Ak _ _))).grown az N;have cf:Below w3 w3 bX:=(ce.out.alloc b8 _).grown N p5 (fun y hy=>(Ai Q.out y hy).1);have e5:(yZ CB).length=cl:=(by rw[Ce,du.out]);have e7:(yZ IX).length=il:=(by rw[Ce,d4.out]);have a4:(yZ DI).length=dl:=(by rw[Ce,fa.out]);have ef:(Cn dl).length=4:=rfl;obtain⟨PS,bl⟩:∃PS:List Part,PS=ps++ [⟨A5,c5,yZ CB⟩,⟨A7,c7,yZ IX⟩,⟨Z,Y,yZ DI⟩,⟨ac,ab,Cn dl⟩]:=⟨_,rfl⟩;have bt:PS.length=k+3+1:=(by rw[bl,Aj,bN.out];rfl);have b5:PS.map Part.v=ps.map Part.v++ [.slice A5 cl c5, .slice A7 il c7, .slice Z dl Y, .slice ac 4 ab]:=(by rw[bl,DY];simp only[List.map_cons,List.map_nil,Part.v,e5,e7,a4,ef]);have be:PS.flatMap Part.ls=MB:=(by rw[bl,I9,HJ.out,<-ev.out,a4];simp[List.flatMap]);have co:FK PS<=1000000000:=by unfold FK;rw[be,HJ.out];simp only[List.length_append,e5,e7,a4];have h1:=en.out;have h2:(Cn dl).length=4:=rfl;omega
    have ah:∀p∈PS,p.Ok bX:=fun p hp=>by
     rw[bl]at hp;rcases Bx.1 hp with hp|hp
     ·exact wZ (dr p hp) rfl
     ·rcases BK.1 hp with rfl|hp
      ·rw[<-e5]at r5;exact wZ r5 rfl
      ·rcases BK.1 hp with rfl|hp
       ·rw[<-e7]at r7;exact wZ r7 rfl
       ·rcases BK.1 hp with rfl|hp
        ·rw[<-a4]at c3;exact wZ c3 rfl
        ·rw[Em.1 hp];exact wZ eh rfl
    have bj:=(Ai J di rfl).2;have dd:=hid (SU bX di (k+3+1) ex PS bt nB co ah bj (fun i hi=>by rw[(Lz.own_cells J (by rw[<-bt];exact hi)).1];have h:(PS.map Part.v)[i]? =some PS[i].v:=(by rw[BR,AD hi];rfl);rw[b5]at h;exact h));rw[be]at dd;have a6:=hid cf;clear az r5 r7 c3 eh dr e5 e7 a4 ef bl bt b5 be co ah bj J N cy cf Q bf bh bn ar cg;refine dd.out.mono ?_;rintro e eC ⟨e9,rfl,cc,b7⟩;have el:=hid (lZ cc (Bm L.out.size a6.out.size));have eo:Hid (Below w w eC):=zZ b7 (Bm L.out.size a6.out.size) (L.out.trans (a6.out.mono L.out.size));clear cc b7 dd;go_wp2_with fail;go_ret2;exact⟨e9,rfl,el.out,eo.out⟩
end Body
namespace Body
open Go.RowKit Mem Go.Proofs.YtfgdoknipbpfhaaGreatDoor.Own Canon NumPut Crc
open Recs Opts Idx
open Block (wZ)
theorem kC(w:World)(ht:TabAt w):Calls prog 10 #[] w fun e w'=>e= .returned (.bool true)/\Below w w w':=by
 have Z:(ixR exB []).length<=99000:=(YR (o:=exB) (l:= []) (n:=0) rfl nB (by simp[KU])).2 ji;have D1:=hid (YU w exB none 0 0 [] ji rfl nB pR ji (by simp[Bi]) (by simp[AW]) Z ht (by simp[tZ,Eb,Fo]) (Am _) Row.zero);unfold Oy at D1;rw[dH]at D1;unfold Opt.val exB at D1;simp only at D1
 have D2:Hid (∀wx:World,Calls prog 27 #[jd,(),(),(), .slice (some ⟨wx,0,none⟩) 1 1] (wx.alloc (.cells #[.int .u8 0] 5)) fun e w'=>∃v,e= .returned v/\w'.ownsRow (wx.alloc (.cells #[.int .u8 0] 5)).heap.size 5 1 v (CH 0 [] [] [] [0]).length (bZ .u8 (CH 0 [] [] [] [0]))/\Below (wx.alloc (.cells #[.int .u8 0] 5)).heap.size (wx.alloc (.cells #[.int .u8 0] 5)) w'):=fun wx=>by
  have J:Blk (wx.alloc (.cells #[.int .u8 0] 5)) wx 5 #[.int .u8 0]:=Blk.made _ _ _
  exact cV (wx.alloc (.cells #[.int .u8 0] 5)) 0 0 0 0 0 0 1 none none none (some ⟨wx,0,none⟩) [] [] [] [0] nB nB rfl rfl pR pR pR pR pR pR (AE _ _ _ _) (fun p hp=>by cases hp) Row.zero ⟨Row.zero,fun _=>⟨rfl,rfl⟩⟩ ⟨Row.of_blk J J.lt fun i j hi hj=>by
   obtain rfl:j=0:=nB
   match i,hi with
   |0,_=>rfl,fun e=>by cases e⟩ (Am _)
 have G:∀x∈CH 0 [] [] [] [0],x<=255:=QL pR pR pR;obtain⟨L,hL⟩:=jc ((CH 0 [] [] [] [0]).length);rw[<-hL]at D1 D2;generalize CH 0 [] [] [] [0]=F at *;have DS:Hid (∀ (wx wa:World) Ax cx Ay cy,wa.ownsRow w 5 1 (.slice Ax L cx) L (bZ .u8 F)->Below wa wa wx->(∃b,wx.ownsRow b 5 1 (.slice Ay L cy) L (bZ .u8 F))->Calls prog 42 #[.slice Ax L cx, .slice Ay L cy] wx fun e w'=>e= .returned (.bool true)/\wx=w'):=fun wx wa Ax cx Ay cy hx hb ⟨b,hy⟩=>by have P:=(wZ hx hL.symm).step hb;have Q:=wZ hy hL.symm;have p1:=P.row;have q1:=Q.row;simp only[<-hL]at p1 q1;refine(Huff.Wm wx Ax Ay L L cx cy F F hL.symm hL.symm (fun e=>hL.trans (P.nil e).1) (fun e=>hL.trans (Q.nil e).1) G G p1 q1).mono ?_;rintro e w' ⟨rfl,rfl⟩;exact⟨pR,rfl⟩
 clear G ht Z hL;go_enter func10,ntmps10;go_wp2_with fail;refine D1.out.mono ?_;rintro e w1 ⟨v1,rfl,h,Y⟩;obtain⟨A1,c1,rfl⟩:=aZ h;have U:=hid h;have aa:=hid Y;have E2:=hid (D2.out w1);clear h Y D1 D2;go_wp2_with fail;refine E2.out.mono ?_;rintro e w2 ⟨v2,rfl,E,N⟩;obtain⟨A2,c2,rfl⟩:=aZ E;have M:Hid (Below w1 w1 w2):=dZ N (cZ (Ak _ _));have E3:=hid (DS.out w2 w1 A1 c1 A2 c2 U.out M.out ⟨_,E⟩);clear E N E2 DS U;go_wp2_with fail;refine E3.out.mono ?_;rintro e w3 ⟨rfl,rfl⟩;go_wp2_with fail;go_ret;exact⟨rfl,dZ M.out aa.out⟩
end Body
end Go.Proofs.YtfgdoknipbpfhaaGreatDoor
