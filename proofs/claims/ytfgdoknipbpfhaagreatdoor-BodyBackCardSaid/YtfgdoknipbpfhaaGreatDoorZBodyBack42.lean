/- The walk of the law  -/
import Derived.Test.YtfgdoknipbpfhaaGreatDoorZBodyBack41
import Derived.Test.YtfgdoknipbpfhaaGreatDoorZBodyBack36
import Derived.Test.YtfgdoknipbpfhaaGreatDoorZBodyBack40
namespace Go.Proofs.YtfgdoknipbpfhaaGreatDoor
open Go.Proofs.Tryz
variable{b0 base n x:Nat}{w:World}{A:Option Addr}{held:Bool}
namespace Block
open Go.RowKit Mem Own Canon
open Nums Crc
end Block
namespace Block
open NumPut Crc Nums
theorem dD:∀ (x i j:Nat) (rest:List Nat),i+(gZ x).length<=9->(0<i->0<x)->Bj (gZ x++rest) i j=(j+x*2 ^ (7*i),i+(gZ x).length,0):=by
 intro x
 induction x using Nat.strongRecOn with
 |_ x ih=>
  intro i j rest hl hi;by_cases h:x<128
  ·rw[EZ h]at hl ⊢;simp only[List.length_singleton]at hl;rw[Ei,EF,Bj,Aa nj,Ab h,Nat.mod_eq_of_lt h];rfl
  ·rw[Gw h]at hl ⊢;simp only[List.length_cons]at hl;rw[Ei,Bj,Aa nj,Aa nj,ih (x / 128) nj (i+1) _ rest nj nj];have e1:(x % 128+128) % 128=x % 128:=nj;have e2:2 ^ (7*(i+1))=128*2 ^ (7*i):=by rw[show 7*(i+1)=7*i+7 by omega,Nat.pow_add];omega
   have e3:x*2 ^ (7*i)=x % 128*2 ^ (7*i)+x / 128*(128*2 ^ (7*i)):=(by rw[<-Nat.mul_assoc,<-EU];congr 1;omega);rw[e1,e2,e3,AD];simp only[Prod.mk.injEq,and_true];omega
theorem bU(h:x<=2097151):(gZ x).length<=3:=by
 by_cases h1:x<128
 ·rw[EZ h1];simp
 ·rw[Gw h1,AD];by_cases h2:x / 128<128
  ·rw[EZ h2];simp
  ·rw[Gw h2,EZ nj];simp
theorem Kn(h:x<=32768)(rest:List Nat):BD 32768 (gZ x++rest)=(x,(gZ x).length,0):=by have hl:=bU (x:=x) nj;unfold BD;rw[dD x 0 0 rest nj nj];simp;omega
section
variable {T:List Nat} {way n p:Nat} {body t4 r1 r2 r3 r4 r5:List Nat}
theorem st1(h:T=way :: r1)(hw:way<=1):Eb T=way/\hA1 T=1/\hE2 T=0:=by
 subst h;have h1:Eb (way :: r1)=way:=rfl;have h2:hE1 (way :: r1)=0:=by unfold hE1;rw[JT];simp
 refine⟨h1,?_,?_⟩
 ·unfold hA1;rw[JV];simp
 ·unfold hE2;rw[h1,h2,Aa nj]
theorem st2(h:T=way :: (gZ n++r2))(hw:way<=1)(hn:n<=32768):hN T=n/\hA2 T=1+(gZ n).length/\hE3 T=0:=by
 obtain⟨_,h2,h3⟩:=st1 h hw;have hd:T.drop 1=gZ n++r2:=qo
 refine⟨?_,?_,?_⟩
 ·unfold hN Bd;rw[h2,h3,hd,Kn hn];simp
 ·unfold hA2 AJ;rw[h2,h3,hd,Kn hn];simp
 ·unfold hE3 AM;rw[h2,h3,hd,Kn hn];simp
theorem st3(h:T=way :: (gZ n++(gZ p++r3)))(hw:way<=1)(hn:n<=32768)(hp:p<=32768)(i:n<=1032*p+64):hP T=p/\hA3 T=1+(gZ n).length+(gZ p).length/\hE5 T=0:=by
 obtain⟨h1,h2,h3⟩:=st2 h hw hn;have hd:T.drop (1+(gZ n).length)=gZ p++r3:=by rw[h,Nat.add_comm,List.drop_succ_cons,List.drop_left]
 have h4:hP T=p:=by unfold hP Bd;rw[h2,h3,hd,Kn hp];simp
 refine⟨h4,?_,?_⟩
 ·unfold hA3 AJ;rw[h2,h3,hd,Kn hp];simp
 ·have h5:hE4 T=0:=by unfold hE4 AM;rw[h2,h3,hd,Kn hp];simp
  unfold hE5;rw[h4,h1,Aa nj,h5]
theorem st4(h:T=way :: (gZ n++(gZ p++(body++r4))))(hw:way<=1)(hn:n<=32768)(hp:p<=32768)(i:n<=1032*p+64)(hb:body.length=p):CU T=body/\hA4 T=1+(gZ n).length+(gZ p).length+p/\hE6 T=0:=by
 obtain⟨h1,h2,h3⟩:=st3 h hw hn hp i;have hd:T.drop (1+(gZ n).length+(gZ p).length)=body++r4:=by rw[h,show 1+(gZ n).length+(gZ p).length=((gZ n).length+(gZ p).length)+1 by omega,List.drop_succ_cons,<-List.drop_drop,List.drop_left,List.drop_left]
 have hl:T.length=1+(gZ n).length+(gZ p).length+p+r4.length:=by rw[h];simp;omega
 refine⟨?_,?_,?_⟩
 ·unfold CU;rw[h1,h2,h3,Kw,Aa nj,hd,<-hb,List.take_left]
 ·unfold hA4;rw[h1,h2,h3,JV,Aa nj]
 ·unfold hE6;rw[h1,h2,h3,JT,Aa nj]
theorem st5(h:T=way :: (gZ n++(gZ p++(body++(t4++r5)))))(hw:way<=1)(hn:n<=32768)(hp:p<=32768)(i:n<=1032*p+64)(hb:body.length=p)(ht:t4.length=4):hA5 T=1+(gZ n).length+(gZ p).length+p+4/\hE7 T=0:=by
 obtain⟨_,h2,h3⟩:=st4 h hw hn hp i hb;have hl:T.length=1+(gZ n).length+(gZ p).length+p+4+r5.length:=by rw[h];simp;omega
 refine⟨?_,?_⟩
 ·unfold hA5;rw[h2,h3,JV,Aa nj]
 ·unfold hE7;rw[h2,h3,JT,Aa nj]
end
end Block
namespace Block
open NumPut Crc Nums
open Toks (Tk Bb)
open Huff (Cl Cs word ET bytesOf bytesOf_length)
theorem a7(l:List Nat):∀at_,Cl (Lz.Dr l at_)=((l.length-at_:Nat):Int):=by
 refine Lz.Po (l:=l) (fun at_ h=> ?_) (fun at_ h h3 ih=> ?_) (fun at_ h h3 ih=> ?_)
 ·rw[Lz.M0 h,Cl];omega
 ·have:=Lz.Lj (l:=l) (at_:=at_) nj;rw[Lz.LV h h3,Cl,ih];simp only;omega
 ·rw[Lz.Ls h h3,Cl,ih];simp only;omega
theorem Tb{ls lf:List Nat}:∀ {ts:List Tk},(∀t∈ts,Bb t.lit t.len t.dist=true/\ls.getD (Toks.qZ t).sym.toNat 0≠0/\(t.len≠0->lf.getD (Toks.qZ t).dist.toNat 0≠0))->Cl ts<=129*((ts.flatMap (TW.BS ls lf)).length:Int)
 | [],_=>by simp[Cl]
 |t :: ts,h=>by
  obtain⟨h0,h1,h2⟩:=h t qT;have ih:=Tb (ls:=ls) (lf:=lf) (ts:=ts) (fun x hx=>h x (Ce _ hx));rw[Cu,Ag,Cl];have hw:=ET ls (Toks.qZ t).sym.toNat
  have hl:max 1 t.len<=129*((TW.BS ls lf t).length:Int):=by
   unfold TW.BS;by_cases hz:t.len=0
   ·rw[Ab hz,BX,hw,hz];omega
   ·have h3:=h2 hz;have i:=ET lf (Toks.qZ t).dist.toNat;unfold Bb at h0;rw[Aa hz]at h0;have h0:=of_decide_eq_true h0;rw[Aa hz];simp only[List.length_append,hw,i];omega
  push_cast
  omega
theorem Z4{bs:List Nat}(h8:∀x∈bs,x<=255)(hz:sqz bs=true):(sqO bs).length<bs.length/\bs.length<=1032*(sqO bs).length+64/\Cs (sqO bs) bs.length=(Lz.find bs,0):=by
 unfold sqz at hz;simp only[Bool.and_eq_true,beq_iff_eq,decide_eq_true_eq]at hz;obtain⟨hE,hl⟩:=hz
 have j:Toks.Dm (Lz.find bs)=true:=by
  unfold sqE TW.Ie at hE;split at hE
  ·cases hE
  ·split at hE
   ·assumption
   ·cases hE
 have h:∀t∈Lz.find bs,0<=t.lit/\t.lit<=255:=fun t ht=>((Lz.find_ok h8 0).1 t ht).1;have hO:sqO bs=bytesOf (TW.Fw (Lz.find bs)):=by unfold sqO TW.G4;exact Ab hE
 have G:Cl (Lz.find bs)=(bs.length:Int):=a7 bs 0
 have E:∀t∈Lz.find bs,Bb t.lit t.len t.dist=true/\(TW.lsS (Lz.find bs)).getD (Toks.qZ t).sym.toNat 0≠0/\(t.len≠0->(TW.lsF (Lz.find bs)).getD (Toks.qZ t).dist.toNat 0≠0):=by
  intro t ht;have i:=j;unfold Toks.Dm at i;have hm:=Gh.1 i t ht;obtain⟨S,D,L,F,y,hS,hD,_⟩:=Toks.L6 t (h t ht).1 (h t ht).2 hm;have e1:(Toks.qZ t).sym.toNat=S:=by rw[y];rfl
  have e2:(Toks.qZ t).dist.toNat=D:=by rw[y];rfl
  exact⟨hm,TW.Pd ht nj,fun h0=>TW.O6 ht h0 nj⟩
 have hb:=Tb E;have J:((Lz.find bs).flatMap (TW.BS (TW.lsS (Lz.find bs)) (TW.lsF (Lz.find bs)))).length<=(TW.Fw (Lz.find bs)).length:=by unfold TW.Fw;simp only[List.length_append];omega
 have z:=bytesOf_length (TW.Fw (Lz.find bs));rw[<-hO]at z;refine⟨hl,nj,?_⟩;rw[hO,TW.ZB h j,Aa nj,Ab nj]
theorem ZJ(bs:List Nat)(plain:Bool):GN bs plain<=1:=by unfold GN;split<;>omega
theorem j6{bs:List Nat}(plain:Bool)(h8:∀x∈bs,x<=255):(Ea bs plain).length<=bs.length/\bs.length<=1032*(Ea bs plain).length+64/\byE (GN bs plain) bs.length (Ea bs plain).length (Ea bs plain)=0/\byO (GN bs plain) bs.length (Ea bs plain).length (Ea bs plain)=bs:=by
 unfold Ea GN;cases hc:(!plain&&sqz bs)
 ·simp only[Bool.false_eq_true,if_false];have h0:byE 0 bs.length bs.length bs=0:=by unfold byE;simp
  refine⟨Ak _,nj,h0,?_⟩;unfold byO;rw[h0];simp
 ·simp only[if_true]
  have hz:sqz bs=true:=by
   cases hz:sqz bs
   ·rw[hz,Bool.and_false]at hc;cases hc
   ·rfl
  obtain⟨h1,h2,h3⟩:=Z4 h8 hz;have hp:Lz.FJ (Lz.find bs) (bs.length:Int)=(bs,0):=Lz.fM h8 nj;have h0:byE 1 bs.length (sqO bs).length (sqO bs)=0:=by unfold byE;rw[h3,Aa nj];simp only;rw[hp];simp
  refine⟨nj,nj,h0,?_⟩;unfold byO;rw[h0,h3,Aa qT,Aa nj];simp only;rw[hp]
theorem WV(s:Nat):(CW s).length=4:=rfl
theorem Yx(bs:List Nat)(plain:Bool)(more:List Nat):Br bs plain++more=GN bs plain :: (gZ bs.length++(gZ (Ea bs plain).length++(Ea bs plain++(CW (Cq (Ds bs plain))++more)))):=by unfold Br Ds IP;simp
theorem Yc(bs:List Nat)(plain:Bool):(Ds bs plain).length=1+(gZ bs.length).length+(gZ (Ea bs plain).length).length+(Ea bs plain).length:=by unfold Ds IP;simp;omega
theorem O0(bs:List Nat)(plain:Bool):(Br bs plain).length=(Ds bs plain).length+4:=by unfold Br;rw[Ag];rfl
theorem RJ{bs:List Nat}(plain:Bool)(more:List Nat)(h8:∀x∈bs,x<=255)(hN:bs.length<=32768):
 opE (Br bs plain++more)=0/\opO (Br bs plain++more)=bs/\opA (Br bs plain++more)=(Br bs plain).length:=by
 obtain⟨b1,b2,b3,b4⟩:=j6 plain h8;have hw:=ZJ bs plain;have he:=Yx bs plain more;obtain⟨T,hT⟩:=ii (Br bs plain++more);rw[<-hT]at he ⊢;obtain⟨s1,_,_⟩:=st1 he hw;obtain⟨s2,_,_⟩:=st2 he hw hN;obtain⟨s3,_,_⟩:=st3 he hw hN nj b2;obtain⟨s4,_,_⟩:=st4 he hw hN nj b2 rfl;obtain⟨s5,s7⟩:=st5 he hw hN nj b2 rfl (WV _);have hl:hA5 T=(Br bs plain).length:=by rw[s5,O0,Yc]
 have h:hE8 T=0:=by
  unfold hE8;rw[s7,Aa qT,hl,hT,List.take_left];unfold CM;have e1:(Br bs plain).length-4=(Ds bs plain).length:=by rw[O0];omega
  rw[e1,Aa (by rw[O0];omega)];have e2:(Br bs plain).take (Ds bs plain).length=Ds bs plain:=by unfold Br;exact List.take_left
  have e3:(Br bs plain).drop (Ds bs plain).length=CW (Cq (Ds bs plain)):=by unfold Br;exact List.drop_left
  rw[e2,e3,Ab rfl]
 have hE:opE T=0:=by unfold opE;rw[h,Aa qT,s1,s2,s3,s4,b3]
 refine⟨hE,?_,?_⟩
 ·unfold opO;rw[hE,Aa qT,s1,s2,s3,s4,b4]
 ·unfold opA;rw[hE,Aa qT,hl]
end Block
namespace Block
open Go.RowKit Mem Own Canon
open Nums Crc NumPut
end Block
namespace Block
open Go.RowKit Mem Own Canon
open Nums Crc NumPut
theorem Va{c s:Nat}{e:TypeId}{xs:List Value}(h:w.ownsRow base e s (.slice A n c) n xs):Src w A n c s xs:=by
 refine⟨h.1,?_⟩;rcases h.2 with ⟨hv,h0⟩|⟨g,z,cur,hv,hb,hh,E,y,G,i⟩
 ·injection hv with e1 e2 e3;exact .inl ⟨e1,e2,e3⟩
 ·injection hv with e1 e2 e3;refine .inr ⟨⟨g,0,none⟩,e1,fun j u hu=> ?_⟩;rw[add_none,BP,Blk.cell hh];rw[<-i,Gg]at hu;split at hu
  ·simpa using hu
  ·cases hu
end Block
namespace One
open Recs Block Nums NumPut Opts Crc
theorem dS:∀ (x i j:Nat) (rest:List Nat),i<=9->x*2 ^ (7*i)<18446744073709551616->(0<i->0<x)->Bj (gZ x++rest) i j=(j+x*2 ^ (7*i),i+(gZ x).length,0):=by
 intro x
 induction x using Nat.strongRecOn with
 |_ x ih=>
  intro i j rest hl hx hi;by_cases h:x<128
  ·have h9:i=9->x=1:=fun e=>by subst e;have:=hi nj;have e9:(2:Nat) ^ (7*9)=9223372036854775808:=ip;rw[e9]at hx;omega
   rw[EZ h];rw[Ei,EF,Bj,Aa nj,Ab h,Nat.mod_eq_of_lt h];rfl
  ·have hb:=MX hx nj;rw[Gw h];rw[Ei,Bj,Aa nj,Aa nj,ih (x / 128) nj (i+1) _ rest nj hb.2 nj];have e1:(x % 128+128) % 128=x % 128:=nj;have e2:2 ^ (7*(i+1))=128*2 ^ (7*i):=qw;have e3:x*2 ^ (7*i)=x % 128*2 ^ (7*i)+x / 128*(128*2 ^ (7*i)):=(by rw[<-Nat.mul_assoc,<-EU];congr 1;omega);rw[e1,e2,e3,AD];simp only[Prod.mk.injEq,and_true];omega
theorem Ul(h:x<18446744073709551616)(rest:List Nat):Bj (gZ x++rest) 0 0=(x,(gZ x).length,0):=by rw[dS x 0 0 rest nj ru nj];simp
theorem Qd{most:Nat}(h:x<=most)(hm:most<=1000000000)(rest:List Nat):BD most (gZ x++rest)=(x,(gZ x).length,0):=by unfold BD;rw[Ul nj rest];simp;omega
theorem UZ{s:ByteArray}(h:s.size<=4000)(rest:List Nat):Cr 4000 (BH s++rest)=(sB s,(BH s).length,0):=by have hl:(sB s).length=s.size:=LO s;unfold Cr BH;rw[AI,Qd h nj];simp only[List.length_append,hl,List.drop_left];rw[Aa qT,Aa nj,<-hl,List.take_left]
theorem Ey{bs a b:List Nat}{k:Nat}(h:bs.drop k=a++b):bs.drop (k+a.length)=b:=by rw[<-List.drop_drop,h,List.drop_left]
end One
namespace One
open Go.RowKit Mem Own Canon NumPut Nums Opts
open Recs Block
open Crc (TabAt)
theorem UM(l:List Rec):∀u∈BZ l,u.oneCell'=true:=by intro u hu;unfold BZ at hu;obtain⟨r,_,hr⟩:=List.mem_flatMap.1 hu;simp at hr;rcases hr with rfl|rfl|rfl|rfl<;>rfl
end One
namespace Open
open Go.ChangeShapes Go.WideShapes Go.RowKit Go.Joins Go.Deep Mem Recs Opts
theorem Zp{H:Type}{enc:TypeId×Value->H}{spare:Nat->Bool}{fuel:Nat}{len z:Nat}{x:DataW H×List MemPlace}
 (h:DataW.trod enc prog w base spare held fuel 24 [.slice A len z]=some x):
 ∃la:List Rec,la.length=len/\Row w w A len 4 (By la)/\len<=z/\len<=9223372036854775807/\∀r∈la,Ci r:=by
 obtain⟨h1,h2,h3⟩:=bK underlying24 underlying43 my my ip 4 rfl h;refine⟨(List.range len).map fun i=>⟨I4 w A (i*4),I4 w A (i*4+1),I1 w A (i*4+2),I1 w A (i*4+3)⟩,qT,?_,h1,by unfold maxLen at h2;omega,?_⟩
 ·intro hn;obtain⟨b,y,rfl,hb,hc⟩:=h3 hn;refine⟨b,y,rfl,hb,fun i j hi hj=> ?_⟩
  have hg:((List.range len).map fun i=>(⟨I4 w (some ⟨b,y,none⟩) (i*4),I4 w (some ⟨b,y,none⟩) (i*4+1),I1 w (some ⟨b,y,none⟩) (i*4+2),I1 w (some ⟨b,y,none⟩) (i*4+3)⟩:Rec)).getD i Gx=
   ⟨I4 w (some ⟨b,y,none⟩) (i*4),I4 w (some ⟨b,y,none⟩) (i*4+1),I1 w (some ⟨b,y,none⟩) (i*4+2),I1 w (some ⟨b,y,none⟩) (i*4+3)⟩:=by
   simp[List.getD,hi]
  unfold By;rw[hg]
  match j,hj with
  |0,_=>obtain⟨v0,y0,n0,c0,t0⟩:=hc i hi 0 _ rfl;obtain⟨x0,e0,_,w0⟩:=DataW.trod_int underlying41 t0;simp only[List.cons.injEq,and_true]at e0;subst e0;rw[ND (k:=i*4) c0];exact c0
  |1,_=>obtain⟨v0,y0,n0,c0,t0⟩:=hc i hi 1 _ rfl;obtain⟨x0,e0,_,w0⟩:=DataW.trod_int underlying5 t0;simp only[List.cons.injEq,and_true]at e0;subst e0;rw[ND c0];exact c0
  |2,_=>obtain⟨v0,y0,n0,c0,t0⟩:=hc i hi 2 _ rfl;obtain⟨x0,e0,_,w0⟩:=DataW.trod_string underlying9 t0;simp only[List.cons.injEq,and_true]at e0;subst e0;rw[Sz c0];exact c0
  |3,_=>obtain⟨v0,y0,n0,c0,t0⟩:=hc i hi 3 _ rfl;obtain⟨x0,e0,_,w0⟩:=DataW.trod_string underlying9 t0;simp only[List.cons.injEq,and_true]at e0;subst e0;rw[Sz c0];exact c0
 ·intro r hr;obtain⟨i,hi,rfl⟩:=Co.1 hr;have hi:=FN.1 hi;obtain⟨b,y,rfl,hb,hc⟩:=h3 nj;obtain⟨v0,y0,n0,c0,t0⟩:=hc i hi 0 _ rfl;obtain⟨x0,e0,_,w0⟩:=DataW.trod_int underlying41 t0;simp only[List.cons.injEq,and_true]at e0;subst e0;obtain⟨v1,y1,n1,c1,t1⟩:=hc i hi 1 _ rfl;obtain⟨x1,e1,_,w1⟩:=DataW.trod_int underlying5 t1;simp only[List.cons.injEq,and_true]at e1;subst e1;have b0:=bounds_u64 w0;have b1:=bounds_u8 w1;show Ci ⟨_,_,_,_⟩;unfold Ci;simp only;rw[ND (k:=i*4) c0,ND (k:=i*4+1) c1];omega
theorem GS{α:Type}{l:List α}(h:l.length=n+1):∃c t,l=c :: t/\t.length=n:=by
 cases l with
 |nil=>cases h
 |cons c t=>exact⟨c,t,rfl,Nat.succ.inj h⟩
theorem cN{α:Type}{a:Array α}(h:a.size=6):∃c0 c1 c2 c3 c4 c5,a=#[c0,c1,c2,c3,c4,c5]:=by obtain⟨l⟩:=a;obtain⟨c0,t0,rfl,h0⟩:=GS (n:=5) h;obtain⟨c1,t1,rfl,h1⟩:=GS h0;obtain⟨c2,t2,rfl,h2⟩:=GS h1;obtain⟨c3,t3,rfl,h3⟩:=GS h2;obtain⟨c4,t4,rfl,h4⟩:=GS h3;obtain⟨c5,t5,rfl,h5⟩:=GS h4;obtain rfl:=WG.1 h5;exact⟨c0,c1,c2,c3,c4,c5,rfl⟩
theorem aB{P:Program}{H:Type}{enc:TypeId×Value->H}{spare:Nat->Bool}{r:Reach}{t:TypeId}{f0 f1 f2 f3 f4 f5:Field}{v:Value}{d:DataW H}{p:List MemPlace}(hs:P.underlying t=some (.struct #[f0,f1,f2,f3,f4,f5]))(i:oneCellFields P #[f0,f1,f2,f3,f4,f5]=true)(hC:P.cellsOf t=6)
 (hv:Value.okWide P w r b0 t v)(h:DataW.Trod enc P w base spare held t v d p):
 ∃ (v0 v1 v2 v3 v4 v5:Value) (y0 y1 y2 y3 y4 y5:DataW H×List MemPlace) (n:Nat),v= .agg #[v0,v1,v2,v3,v4,v5]/\
  DataW.trod enc P w base spare held n f0.type [v0]=some y0/\DataW.trod enc P w base spare held n f1.type [v1]=some y1/\DataW.trod enc P w base spare held n f2.type [v2]=some y2/\DataW.trod enc P w base spare held n f3.type [v3]=some y3/\DataW.trod enc P w base spare held n f4.type [v4]=some y4/\DataW.trod enc P w base spare held n f5.type [v5]=some y5:=by
 obtain⟨cs,rfl,y⟩:=okWide_struct hs hv;obtain⟨c0,c1,c2,c3,c4,c5,rfl⟩:=cN (y.trans hC);obtain⟨fuel,hf⟩:=h;obtain⟨xs,n,_,_,hl,j,hf⟩:=DataW.trod_struct hs hf;obtain⟨y0,t0,rfl,l0⟩:=GS (n:=5) j;obtain⟨y1,t1,rfl,l1⟩:=GS l0;obtain⟨y2,t2,rfl,l2⟩:=GS l1;obtain⟨y3,t3,rfl,l3⟩:=GS l2;obtain⟨y4,t4,rfl,l4⟩:=GS l3;obtain⟨y5,t5,rfl,l5⟩:=GS l4;obtain rfl:=WG.1 l5;obtain⟨o0,k0⟩:=hone_of i 0 f0 rfl;obtain⟨o1,k1⟩:=hone_of i 1 f1 rfl;obtain⟨o2,k2⟩:=hone_of i 2 f2 rfl;obtain⟨o3,k3⟩:=hone_of i 3 f3 rfl;obtain⟨o4,k4⟩:=hone_of i 4 f4 rfl;obtain⟨o5,k5⟩:=hone_of i 5 f5 rfl;exact⟨c0,c1,c2,c3,c4,c5,y0,y1,y2,y3,y4,y5,n,rfl,by simpa[Value.cells,o0,k0]using hf 0 f0 rfl,by simpa[Value.cells,o1,k1]using hf 1 f1 rfl,by simpa[Value.cells,o2,k2]using hf 2 f2 rfl,by simpa[Value.cells,o3,k3]using hf 3 f3 rfl,by simpa[Value.cells,o4,k4]using hf 4 f4 rfl,by simpa[Value.cells,o5,k5]using hf 5 f5 rfl⟩
set_option maxRecDepth 100000 in
theorem opts{H:Type}{enc:TypeId×Value->H}{spare:Nat->Bool}{r:Reach}{v:Value}{d:DataW H}{p:List MemPlace}
 (hv:Value.okWide prog w r b0 23 v)(h:DataW.Trod enc prog w base spare held 23 v d p):∃o:Opt,v=o.val:=by
 obtain⟨c0,c1,c2,c3,c4,c5,y0,y1,y2,y3,y4,y5,n,rfl,h0,h1,h2,h3,h4,h5⟩:=aB underlying23 my my hv h;obtain⟨x0,e0,_,_⟩:=DataW.trod_int underlying3 h0;obtain⟨x1,e1,_⟩:=DataW.trod_bool underlying4 h1;obtain⟨x2,e2,_,_⟩:=DataW.trod_int underlying3 h2;obtain⟨x3,e3,_,_⟩:=DataW.trod_int underlying3 h3;obtain⟨x4,e4,_,_⟩:=DataW.trod_int underlying3 h4;obtain⟨x5,e5,_,_⟩:=DataW.trod_int underlying3 h5;simp only[List.cons.injEq,and_true]at e0 e1 e2 e3 e4 e5;subst e0 e1 e2 e3 e4 e5;exact⟨⟨x0,x1,x2,x3,x4,x5⟩,rfl⟩
end Open
end Go.Proofs.YtfgdoknipbpfhaaGreatDoor
