/- The walk of the law  -/
import Derived.Test.YtfgdoknipbpfhaaGreatDoorZBodyOpened39
import Derived.Test.YtfgdoknipbpfhaaGreatDoorZBodyOpened22
import Derived.Test.YtfgdoknipbpfhaaGreatDoorZBodyOpened38
import Derived.WideShapes
namespace Go.Proofs.YtfgdoknipbpfhaaGreatDoor
open Go.Proofs.Tryz
section
namespace One
open Go.RowKit Mem Own Canon NumPut Nums Opts
open Recs (Jq)
def hP(bs:List Nat):Nat:=GE bs (AM 32768 bs 0 0) (AO 32768 bs 0 0)
def hA2(bs:List Nat):Nat:=takeA bs (AM 32768 bs 0 0) (AO 32768 bs 0 0) 1
def hE2(bs:List Nat):Int:=BQ bs (AM 32768 bs 0 0) (AO 32768 bs 0 0) 1
def hE3(bs:List Nat):Int:=if 1<hP bs then Ga (hE2 bs) 2 else hE2 bs
def hN(bs:List Nat):Nat:=Ba 20000 bs (hA2 bs) (hE3 bs)
def hO(bs:List Nat):Opt:=⟨(Ba 32768 bs 0 0:Nat),decide (hP bs=1),0,0,0,0⟩
end One
end
variable{b0 base n x:Nat}{w:World}{A:Option Addr}{held:Bool}
namespace Block
open Go.RowKit Mem Own Canon
open Nums Crc
end Block
namespace Block
open NumPut Crc Nums
theorem Xr:∀ (x i j:Nat) (rest:List Nat),i+(fZ x).length<=9->(0<i->0<x)->Bm (fZ x++rest) i j=(j+x*2 ^ (7*i),i+(fZ x).length,0):=by
 intro x
 induction x using Nat.strongRecOn with
 |_ x ih=>
  intro i j rest hl hi;by_cases h:x<128
  ·rw[EW h]at hl ⊢;simp only[List.length_singleton]at hl;rw[Ec,FA,Bm,Ab mz,Ae h,Nat.mod_eq_of_lt h];rfl
  ·rw[Gi h]at hl ⊢;simp only[List.length_cons]at hl;rw[Ec,Bm,Ab mz,Ab mz,ih (x / 128) mz (i+1) _ rest mz mz];have e1:(x % 128+128) % 128=x % 128:=mz;have e2:2 ^ (7*(i+1))=128*2 ^ (7*i):=by rw[show 7*(i+1)=7*i+7 by omega,Nat.pow_add];omega
   have e3:x*2 ^ (7*i)=x % 128*2 ^ (7*i)+x / 128*(128*2 ^ (7*i)):=(by rw[<-Nat.mul_assoc,<-EL];congr 1;omega);rw[e1,e2,e3,AI];simp only[Prod.mk.injEq,and_true];omega
theorem W9(h:x<=2097151):(fZ x).length<=3:=by
 by_cases h1:x<128
 ·rw[EW h1];simp
 ·rw[Gi h1,AI];by_cases h2:x / 128<128
  ·rw[EW h2];simp
  ·rw[Gi h2,EW mz];simp
theorem J2(h:x<=32768)(rest:List Nat):BC 32768 (fZ x++rest)=(x,(fZ x).length,0):=by have hl:=W9 (x:=x) mz;unfold BC;rw[Xr x 0 0 rest mz mz];simp;omega
section
variable {T:List Nat} {way n p:Nat} {body t4 r1 r2 r3 r4 r5:List Nat}
theorem st1(h:T=way :: r1)(hw:way<=1):D9 T=way/\hA1 T=1/\hE2 T=0:=by
 subst h;have h1:D9 (way :: r1)=way:=rfl;have h2:hE1 (way :: r1)=0:=by unfold hE1;rw[Kb];simp
 refine⟨h1,?_,?_⟩
 ·unfold hA1;rw[Kc];simp
 ·unfold hE2;rw[h1,h2,Ab mz]
theorem st2(h:T=way :: (fZ n++r2))(hw:way<=1)(hn:n<=32768):hN T=n/\hA2 T=1+(fZ n).length/\hE3 T=0:=by
 obtain⟨_,h2,h3⟩:=st1 h hw;have hd:T.drop 1=fZ n++r2:=oV
 refine⟨?_,?_,?_⟩
 ·unfold hN Ba;rw[h2,h3,hd,J2 hn];simp
 ·unfold hA2 AM;rw[h2,h3,hd,J2 hn];simp
 ·unfold hE3 AO;rw[h2,h3,hd,J2 hn];simp
theorem st3(h:T=way :: (fZ n++(fZ p++r3)))(hw:way<=1)(hn:n<=32768)(hp:p<=32768)(i:n<=1032*p+64):hP T=p/\hA3 T=1+(fZ n).length+(fZ p).length/\hE5 T=0:=by
 obtain⟨h1,h2,h3⟩:=st2 h hw hn;have hd:T.drop (1+(fZ n).length)=fZ p++r3:=by rw[h,Nat.add_comm,List.drop_succ_cons,List.drop_left]
 have h4:hP T=p:=by unfold hP Ba;rw[h2,h3,hd,J2 hp];simp
 refine⟨h4,?_,?_⟩
 ·unfold hA3 AM;rw[h2,h3,hd,J2 hp];simp
 ·have h5:hE4 T=0:=by unfold hE4 AO;rw[h2,h3,hd,J2 hp];simp
  unfold hE5;rw[h4,h1,Ab mz,h5]
theorem st4(h:T=way :: (fZ n++(fZ p++(body++r4))))(hw:way<=1)(hn:n<=32768)(hp:p<=32768)(i:n<=1032*p+64)(hb:body.length=p):CQ T=body/\hA4 T=1+(fZ n).length+(fZ p).length+p/\hE6 T=0:=by
 obtain⟨h1,h2,h3⟩:=st3 h hw hn hp i;have hd:T.drop (1+(fZ n).length+(fZ p).length)=body++r4:=by rw[h,show 1+(fZ n).length+(fZ p).length=((fZ n).length+(fZ p).length)+1 by omega,List.drop_succ_cons,<-List.drop_drop,List.drop_left,List.drop_left]
 have hl:T.length=1+(fZ n).length+(fZ p).length+p+r4.length:=by rw[h];simp;omega
 refine⟨?_,?_,?_⟩
 ·unfold CQ;rw[h1,h2,h3,JC,Ab mz,hd,<-hb,List.take_left]
 ·unfold hA4;rw[h1,h2,h3,Kc,Ab mz]
 ·unfold hE6;rw[h1,h2,h3,Kb,Ab mz]
theorem st5(h:T=way :: (fZ n++(fZ p++(body++(t4++r5)))))(hw:way<=1)(hn:n<=32768)(hp:p<=32768)(i:n<=1032*p+64)(hb:body.length=p)(ht:t4.length=4):hA5 T=1+(fZ n).length+(fZ p).length+p+4/\hE7 T=0:=by
 obtain⟨_,h2,h3⟩:=st4 h hw hn hp i hb;have hl:T.length=1+(fZ n).length+(fZ p).length+p+4+r5.length:=by rw[h];simp;omega
 refine⟨?_,?_⟩
 ·unfold hA5;rw[h2,h3,Kc,Ab mz]
 ·unfold hE7;rw[h2,h3,Kb,Ab mz]
end
end Block
namespace Block
open NumPut Crc Nums
open Toks (Tk A0)
open Huff (Cg Cp word Ez bytesOf bytesOf_length)
theorem WK(l:List Nat):∀at_,Cg (Lz.Do l at_)=((l.length-at_:Nat):Int):=by
 refine Lz.OA (l:=l) (fun at_ h=> ?_) (fun at_ h h3 ih=> ?_) (fun at_ h h3 ih=> ?_)
 ·rw[Lz.LM h,Cg];omega
 ·have:=Lz.Kr (l:=l) (at_:=at_) mz;rw[Lz.Kw h h3,Cg,ih];simp only;omega
 ·rw[Lz.Kn h h3,Cg,ih];simp only;omega
theorem TQ{ls lf:List Nat}:∀ {ts:List Tk},(∀t∈ts,A0 t.lit t.len t.dist=true/\ls.getD (Toks.oZ t).sym.toNat 0≠0/\(t.len≠0->lf.getD (Toks.oZ t).dist.toNat 0≠0))->Cg ts<=129*((ts.flatMap (TW.BK ls lf)).length:Int)
 | [],_=>by simp[Cg]
 |t :: ts,h=>by
  obtain⟨h0,h1,h2⟩:=h t pI;have ih:=TQ (ls:=ls) (lf:=lf) (ts:=ts) (fun x hx=>h x (BW _ hx));rw[Ct,Aj,Cg];have hw:=Ez ls (Toks.oZ t).sym.toNat
  have hl:max 1 t.len<=129*((TW.BK ls lf t).length:Int):=by
   unfold TW.BK;by_cases hz:t.len=0
   ·rw[Ae hz,Ce,hw,hz];omega
   ·have h3:=h2 hz;have i:=Ez lf (Toks.oZ t).dist.toNat;unfold A0 at h0;rw[Ab hz]at h0;have h0:=of_decide_eq_true h0;rw[Ab hz];simp only[List.length_append,hw,i];omega
  push_cast
  omega
theorem XD{bs:List Nat}(h8:∀x∈bs,x<=255)(hz:sqz bs=true):(sqO bs).length<bs.length/\bs.length<=1032*(sqO bs).length+64/\Cp (sqO bs) bs.length=(Lz.find bs,0):=by
 unfold sqz at hz;simp only[Bool.and_eq_true,beq_iff_eq,decide_eq_true_eq]at hz;obtain⟨hE,hl⟩:=hz
 have j:Toks.Dk (Lz.find bs)=true:=by
  unfold sqE TW.Io at hE;split at hE
  ·cases hE
  ·split at hE
   ·assumption
   ·cases hE
 have h:∀t∈Lz.find bs,0<=t.lit/\t.lit<=255:=fun t ht=>((Lz.find_ok h8 0).1 t ht).1;have hO:sqO bs=bytesOf (TW.Fk (Lz.find bs)):=by unfold sqO TW.GY;exact Ae hE
 have J:Cg (Lz.find bs)=(bs.length:Int):=WK bs 0
 have E:∀t∈Lz.find bs,A0 t.lit t.len t.dist=true/\(TW.lsS (Lz.find bs)).getD (Toks.oZ t).sym.toNat 0≠0/\(t.len≠0->(TW.lsF (Lz.find bs)).getD (Toks.oZ t).dist.toNat 0≠0):=by
  intro t ht;have i:=j;unfold Toks.Dk at i;have hm:=FW.1 i t ht;obtain⟨S,D,L,F,y,hS,hD,_⟩:=Toks.L1 t (h t ht).1 (h t ht).2 hm;have e1:(Toks.oZ t).sym.toNat=S:=by rw[y];rfl
  have e2:(Toks.oZ t).dist.toNat=D:=by rw[y];rfl
  exact⟨hm,TW.O1 ht mz,fun h0=>TW.OV ht h0 mz⟩
 have hb:=TQ E;have G:((Lz.find bs).flatMap (TW.BK (TW.lsS (Lz.find bs)) (TW.lsF (Lz.find bs)))).length<=(TW.Fk (Lz.find bs)).length:=by unfold TW.Fk;simp only[List.length_append];omega
 have z:=bytesOf_length (TW.Fk (Lz.find bs));rw[<-hO]at z;refine⟨hl,mz,?_⟩;rw[hO,TW.nA h j,Ab mz,Ae mz]
theorem Xk(bs:List Nat)(plain:Bool):Gv bs plain<=1:=by unfold Gv;split<;>omega
theorem XR{bs:List Nat}(plain:Bool)(h8:∀x∈bs,x<=255):(DV bs plain).length<=bs.length/\bs.length<=1032*(DV bs plain).length+64/\byE (Gv bs plain) bs.length (DV bs plain).length (DV bs plain)=0/\byO (Gv bs plain) bs.length (DV bs plain).length (DV bs plain)=bs:=by
 unfold DV Gv;cases hc:(!plain&&sqz bs)
 ·simp only[Bool.false_eq_true,if_false];have h0:byE 0 bs.length bs.length bs=0:=by unfold byE;simp
  refine⟨Aq _,mz,h0,?_⟩;unfold byO;rw[h0];simp
 ·simp only[if_true]
  have hz:sqz bs=true:=by
   cases hz:sqz bs
   ·rw[hz,Bool.and_false]at hc;cases hc
   ·rfl
  obtain⟨h1,h2,h3⟩:=XD h8 hz;have hp:Lz.Fy (Lz.find bs) (bs.length:Int)=(bs,0):=Lz.Xu h8 mz;have h0:byE 1 bs.length (sqO bs).length (sqO bs)=0:=by unfold byE;rw[h3,Ab mz];simp only;rw[hp];simp
  refine⟨mz,mz,h0,?_⟩;unfold byO;rw[h0,h3,Ab pI,Ab mz];simp only;rw[hp]
theorem gJ(s:Nat):(CR s).length=4:=rfl
theorem mR(bs:List Nat)(plain:Bool)(more:List Nat):Bu bs plain++more=Gv bs plain :: (fZ bs.length++(fZ (DV bs plain).length++(DV bs plain++(CR (Cn (Dw bs plain))++more)))):=by unfold Bu Dw ID;simp
theorem lT(bs:List Nat)(plain:Bool):(Dw bs plain).length=1+(fZ bs.length).length+(fZ (DV bs plain).length).length+(DV bs plain).length:=by unfold Dw ID;simp;omega
theorem OW(bs:List Nat)(plain:Bool):(Bu bs plain).length=(Dw bs plain).length+4:=by unfold Bu;rw[Aj];rfl
theorem RG{bs:List Nat}(plain:Bool)(more:List Nat)(h8:∀x∈bs,x<=255)(hN:bs.length<=32768):
 opE (Bu bs plain++more)=0/\opO (Bu bs plain++more)=bs/\opA (Bu bs plain++more)=(Bu bs plain).length:=by
 obtain⟨b1,b2,b3,b4⟩:=XR plain h8;have hw:=Xk bs plain;have he:=mR bs plain more;obtain⟨T,hT⟩:=ii (Bu bs plain++more);rw[<-hT]at he ⊢;obtain⟨s1,_,_⟩:=st1 he hw;obtain⟨s2,_,_⟩:=st2 he hw hN;obtain⟨s3,_,_⟩:=st3 he hw hN mz b2;obtain⟨s4,_,_⟩:=st4 he hw hN mz b2 rfl;obtain⟨s5,s7⟩:=st5 he hw hN mz b2 rfl (gJ _);have hl:hA5 T=(Bu bs plain).length:=by rw[s5,OW,lT]
 have h:hE8 T=0:=by
  unfold hE8;rw[s7,Ab pI,hl,hT,List.take_left];unfold CL;have e1:(Bu bs plain).length-4=(Dw bs plain).length:=by rw[OW];omega
  rw[e1,Ab (by rw[OW];omega)];have e2:(Bu bs plain).take (Dw bs plain).length=Dw bs plain:=by unfold Bu;exact List.take_left
  have e3:(Bu bs plain).drop (Dw bs plain).length=CR (Cn (Dw bs plain)):=by unfold Bu;exact List.drop_left
  rw[e2,e3,Ae rfl]
 have hE:opE T=0:=by unfold opE;rw[h,Ab pI,s1,s2,s3,s4,b3]
 refine⟨hE,?_,?_⟩
 ·unfold opO;rw[hE,Ab pI,s1,s2,s3,s4,b4]
 ·unfold opA;rw[hE,Ab pI,hl]
end Block
namespace Block
open Go.RowKit Mem Own Canon
open Nums Crc NumPut
end Block
namespace Block
open Go.RowKit Mem Own Canon
open Nums Crc NumPut
theorem QP{c s:Nat}{e:TypeId}{xs:List Value}(h:w.ownsRow base e s (.slice A n c) n xs):Src w A n c s xs:=by
 refine⟨h.1,?_⟩;rcases h.2 with ⟨hv,h0⟩|⟨g,E,cur,hv,hb,hh,z,y,G,i⟩
 ·injection hv with e1 e2 e3;exact .inl ⟨e1,e2,e3⟩
 ·injection hv with e1 e2 e3;refine .inr ⟨⟨g,0,none⟩,e1,fun j u hu=> ?_⟩;rw[add_none,Ck,Blk.cell hh];rw[<-i,Gq]at hu;split at hu
  ·simpa using hu
  ·cases hu
end Block
namespace One
open Recs Block Nums NumPut Opts Crc
theorem Yf:∀ (x i j:Nat) (rest:List Nat),i<=9->x*2 ^ (7*i)<18446744073709551616->(0<i->0<x)->Bm (fZ x++rest) i j=(j+x*2 ^ (7*i),i+(fZ x).length,0):=by
 intro x
 induction x using Nat.strongRecOn with
 |_ x ih=>
  intro i j rest hl hx hi;by_cases h:x<128
  ·have h9:i=9->x=1:=fun e=>by subst e;have:=hi mz;have e9:(2:Nat) ^ (7*9)=9223372036854775808:=ip;rw[e9]at hx;omega
   rw[EW h];rw[Ec,FA,Bm,Ab mz,Ae h,Nat.mod_eq_of_lt h];rfl
  ·have hb:=Mg hx mz;rw[Gi h];rw[Ec,Bm,Ab mz,Ab mz,ih (x / 128) mz (i+1) _ rest mz hb.2 mz];have e1:(x % 128+128) % 128=x % 128:=mz;have e2:2 ^ (7*(i+1))=128*2 ^ (7*i):=pf;have e3:x*2 ^ (7*i)=x % 128*2 ^ (7*i)+x / 128*(128*2 ^ (7*i)):=(by rw[<-Nat.mul_assoc,<-EL];congr 1;omega);rw[e1,e2,e3,AI];simp only[Prod.mk.injEq,and_true];omega
theorem QN(h:x<18446744073709551616)(rest:List Nat):Bm (fZ x++rest) 0 0=(x,(fZ x).length,0):=by rw[Yf x 0 0 rest mz p5 mz];simp
theorem PM{most:Nat}(h:x<=most)(hm:most<=1000000000)(rest:List Nat):BC most (fZ x++rest)=(x,(fZ x).length,0):=by unfold BC;rw[QN mz rest];simp;omega
theorem QC{s:ByteArray}(h:s.size<=4000)(rest:List Nat):Co 4000 (BF s++rest)=(sB s,(BF s).length,0):=by have hl:(sB s).length=s.size:=KU s;unfold Co BF;rw[AJ,PM h mz];simp only[List.length_append,hl,List.drop_left];rw[Ab pI,Ab mz,<-hl,List.take_left]
theorem Ew{bs a b:List Nat}{k:Nat}(h:bs.drop k=a++b):bs.drop (k+a.length)=b:=by rw[<-List.drop_drop,h,List.drop_left]
end One
namespace One
open Go.RowKit Mem Own Canon NumPut Nums Opts
open Recs Block
open Crc (TabAt)
theorem Qp(l:List Rec):∀u∈Ci l,u.oneCell'=true:=by intro u hu;unfold Ci at hu;obtain⟨r,_,hr⟩:=List.mem_flatMap.1 hu;simp at hr;rcases hr with rfl|rfl|rfl|rfl<;>rfl
end One
namespace Open
open Go.ChangeShapes Go.WideShapes Go.RowKit Go.Joins Go.Deep Mem Recs Opts
theorem WY{H:Type}{enc:TypeId×Value->H}{spare:Nat->Bool}{fuel:Nat}{len z:Nat}{x:DataW H×List MemPlace}
 (h:DataW.trod enc prog w base spare held fuel 24 [.slice A len z]=some x):
 ∃la:List Rec,la.length=len/\Row w w A len 4 (BS la)/\len<=z/\len<=9223372036854775807/\∀r∈la,BY r:=by
 obtain⟨h1,h2,h3⟩:=YA underlying24 underlying43 mr mr ip 4 rfl h;refine⟨(List.range len).map fun i=>⟨GZ w A (i*4),GZ w A (i*4+1),IB w A (i*4+2),IB w A (i*4+3)⟩,pI,?_,h1,by unfold maxLen at h2;omega,?_⟩
 ·intro hn;obtain⟨b,y,rfl,hb,hc⟩:=h3 hn;refine⟨b,y,rfl,hb,fun i j hi hj=> ?_⟩
  have hg:((List.range len).map fun i=>(⟨GZ w (some ⟨b,y,none⟩) (i*4),GZ w (some ⟨b,y,none⟩) (i*4+1),IB w (some ⟨b,y,none⟩) (i*4+2),IB w (some ⟨b,y,none⟩) (i*4+3)⟩:Rec)).getD i FY=
   ⟨GZ w (some ⟨b,y,none⟩) (i*4),GZ w (some ⟨b,y,none⟩) (i*4+1),IB w (some ⟨b,y,none⟩) (i*4+2),IB w (some ⟨b,y,none⟩) (i*4+3)⟩:=by
   simp[List.getD,hi]
  unfold BS;rw[hg]
  match j,hj with
  |0,_=>obtain⟨v0,y0,n0,c0,t0⟩:=hc i hi 0 _ rfl;obtain⟨x0,e0,_,w0⟩:=DataW.trod_int underlying41 t0;simp only[List.cons.injEq,and_true]at e0;subst e0;rw[KN (k:=i*4) c0];exact c0
  |1,_=>obtain⟨v0,y0,n0,c0,t0⟩:=hc i hi 1 _ rfl;obtain⟨x0,e0,_,w0⟩:=DataW.trod_int underlying5 t0;simp only[List.cons.injEq,and_true]at e0;subst e0;rw[KN c0];exact c0
  |2,_=>obtain⟨v0,y0,n0,c0,t0⟩:=hc i hi 2 _ rfl;obtain⟨x0,e0,_,w0⟩:=DataW.trod_string underlying9 t0;simp only[List.cons.injEq,and_true]at e0;subst e0;rw[St c0];exact c0
  |3,_=>obtain⟨v0,y0,n0,c0,t0⟩:=hc i hi 3 _ rfl;obtain⟨x0,e0,_,w0⟩:=DataW.trod_string underlying9 t0;simp only[List.cons.injEq,and_true]at e0;subst e0;rw[St c0];exact c0
 ·intro r hr;obtain⟨i,hi,rfl⟩:=Cc.1 hr;have hi:=Fm.1 hi;obtain⟨b,y,rfl,hb,hc⟩:=h3 mz;obtain⟨v0,y0,n0,c0,t0⟩:=hc i hi 0 _ rfl;obtain⟨x0,e0,_,w0⟩:=DataW.trod_int underlying41 t0;simp only[List.cons.injEq,and_true]at e0;subst e0;obtain⟨v1,y1,n1,c1,t1⟩:=hc i hi 1 _ rfl;obtain⟨x1,e1,_,w1⟩:=DataW.trod_int underlying5 t1;simp only[List.cons.injEq,and_true]at e1;subst e1;have b0:=bounds_u64 w0;have b1:=bounds_u8 w1;show BY ⟨_,_,_,_⟩;unfold BY;simp only;rw[KN (k:=i*4) c0,KN (k:=i*4+1) c1];omega
theorem GG{α:Type}{l:List α}(h:l.length=n+1):∃c t,l=c :: t/\t.length=n:=by
 cases l with
 |nil=>cases h
 |cons c t=>exact⟨c,t,rfl,Nat.succ.inj h⟩
theorem XU{α:Type}{a:Array α}(h:a.size=6):∃c0 c1 c2 c3 c4 c5,a=#[c0,c1,c2,c3,c4,c5]:=by obtain⟨l⟩:=a;obtain⟨c0,t0,rfl,h0⟩:=GG (n:=5) h;obtain⟨c1,t1,rfl,h1⟩:=GG h0;obtain⟨c2,t2,rfl,h2⟩:=GG h1;obtain⟨c3,t3,rfl,h3⟩:=GG h2;obtain⟨c4,t4,rfl,h4⟩:=GG h3;obtain⟨c5,t5,rfl,h5⟩:=GG h4;obtain rfl:=VY.1 h5;exact⟨c0,c1,c2,c3,c4,c5,rfl⟩
theorem Wp{P:Program}{H:Type}{enc:TypeId×Value->H}{spare:Nat->Bool}{r:Reach}{t:TypeId}{f0 f1 f2 f3 f4 f5:Field}{v:Value}{d:DataW H}{p:List MemPlace}(hs:P.underlying t=some (.struct #[f0,f1,f2,f3,f4,f5]))(i:oneCellFields P #[f0,f1,f2,f3,f4,f5]=true)(hC:P.cellsOf t=6)
 (hv:Value.okWide P w r b0 t v)(h:DataW.Trod enc P w base spare held t v d p):
 ∃ (v0 v1 v2 v3 v4 v5:Value) (y0 y1 y2 y3 y4 y5:DataW H×List MemPlace) (n:Nat),v= .agg #[v0,v1,v2,v3,v4,v5]/\
  DataW.trod enc P w base spare held n f0.type [v0]=some y0/\DataW.trod enc P w base spare held n f1.type [v1]=some y1/\DataW.trod enc P w base spare held n f2.type [v2]=some y2/\DataW.trod enc P w base spare held n f3.type [v3]=some y3/\DataW.trod enc P w base spare held n f4.type [v4]=some y4/\DataW.trod enc P w base spare held n f5.type [v5]=some y5:=by
 obtain⟨cs,rfl,y⟩:=okWide_struct hs hv;obtain⟨c0,c1,c2,c3,c4,c5,rfl⟩:=XU (y.trans hC);obtain⟨fuel,hf⟩:=h;obtain⟨xs,n,_,_,hl,j,hf⟩:=DataW.trod_struct hs hf;obtain⟨y0,t0,rfl,l0⟩:=GG (n:=5) j;obtain⟨y1,t1,rfl,l1⟩:=GG l0;obtain⟨y2,t2,rfl,l2⟩:=GG l1;obtain⟨y3,t3,rfl,l3⟩:=GG l2;obtain⟨y4,t4,rfl,l4⟩:=GG l3;obtain⟨y5,t5,rfl,l5⟩:=GG l4;obtain rfl:=VY.1 l5;obtain⟨o0,k0⟩:=hone_of i 0 f0 rfl;obtain⟨o1,k1⟩:=hone_of i 1 f1 rfl;obtain⟨o2,k2⟩:=hone_of i 2 f2 rfl;obtain⟨o3,k3⟩:=hone_of i 3 f3 rfl;obtain⟨o4,k4⟩:=hone_of i 4 f4 rfl;obtain⟨o5,k5⟩:=hone_of i 5 f5 rfl;exact⟨c0,c1,c2,c3,c4,c5,y0,y1,y2,y3,y4,y5,n,rfl,by simpa[Value.cells,o0,k0]using hf 0 f0 rfl,by simpa[Value.cells,o1,k1]using hf 1 f1 rfl,by simpa[Value.cells,o2,k2]using hf 2 f2 rfl,by simpa[Value.cells,o3,k3]using hf 3 f3 rfl,by simpa[Value.cells,o4,k4]using hf 4 f4 rfl,by simpa[Value.cells,o5,k5]using hf 5 f5 rfl⟩
set_option maxRecDepth 100000 in
theorem opts{H:Type}{enc:TypeId×Value->H}{spare:Nat->Bool}{r:Reach}{v:Value}{d:DataW H}{p:List MemPlace}
 (hv:Value.okWide prog w r b0 23 v)(h:DataW.Trod enc prog w base spare held 23 v d p):∃o:Opt,v=o.val:=by
 obtain⟨c0,c1,c2,c3,c4,c5,y0,y1,y2,y3,y4,y5,n,rfl,h0,h1,h2,h3,h4,h5⟩:=Wp underlying23 mr mr hv h;obtain⟨x0,e0,_,_⟩:=DataW.trod_int underlying3 h0;obtain⟨x1,e1,_⟩:=DataW.trod_bool underlying4 h1;obtain⟨x2,e2,_,_⟩:=DataW.trod_int underlying3 h2;obtain⟨x3,e3,_,_⟩:=DataW.trod_int underlying3 h3;obtain⟨x4,e4,_,_⟩:=DataW.trod_int underlying3 h4;obtain⟨x5,e5,_,_⟩:=DataW.trod_int underlying3 h5;simp only[List.cons.injEq,and_true]at e0 e1 e2 e3 e4 e5;subst e0 e1 e2 e3 e4 e5;exact⟨⟨x0,x1,x2,x3,x4,x5⟩,rfl⟩
end Open
end Go.Proofs.YtfgdoknipbpfhaaGreatDoor
