/- The walk of the law  -/
import Derived.Test.YtfgdoknipbpfhaaGreatDoorZBodyBlocks39
import Derived.Test.YtfgdoknipbpfhaaGreatDoorZBodyBlocks34
import Derived.Test.YtfgdoknipbpfhaaGreatDoorZBodyBlocks38
namespace Go.Proofs.YtfgdoknipbpfhaaGreatDoor
open Go.Proofs.Tryz
variable{b0 base x:Nat}{w:World}{held:Bool}
namespace Block
open Go.RowKit Mem Own Canon
open Nums Crc
end Block
namespace Block
open NumPut Crc Nums
theorem Wx:∀ (x i j:Nat) (rest:List Nat),i+(fZ x).length<=9->(0<i->0<x)->Bg (fZ x++rest) i j=(j+x*2 ^ (7*i),i+(fZ x).length,0):=by
 intro x
 induction x using Nat.strongRecOn with
 |_ x ih=>
  intro i j rest hl hi;by_cases h:x<128
  ·rw[EM h]at hl ⊢;simp only[List.length_singleton]at hl;rw[DH,Fq,Bg,Aa mw,Ab h,Nat.mod_eq_of_lt h];rfl
  ·rw[FZ h]at hl ⊢;simp only[List.length_cons]at hl;rw[DH,Bg,Aa mw,Aa mw,ih (x / 128) mw (i+1) _ rest mw mw];have e1:(x % 128+128) % 128=x % 128:=mw;have e2:2 ^ (7*(i+1))=128*2 ^ (7*i):=by rw[show 7*(i+1)=7*i+7 by omega,Nat.pow_add];omega
   have e3:x*2 ^ (7*i)=x % 128*2 ^ (7*i)+x / 128*(128*2 ^ (7*i)):=(by rw[<-Nat.mul_assoc,<-Ez];congr 1;omega);rw[e1,e2,e3,AD];simp only[Prod.mk.injEq,and_true];omega
theorem Wc(h:x<=2097151):(fZ x).length<=3:=by
 by_cases h1:x<128
 ·rw[EM h1];simp
 ·rw[FZ h1,AD];by_cases h2:x / 128<128
  ·rw[EM h2];simp
  ·rw[FZ h2,EM mw];simp
theorem JZ(h:x<=32768)(rest:List Nat):Bx 32768 (fZ x++rest)=(x,(fZ x).length,0):=by have hl:=Wc (x:=x) mw;unfold Bx;rw[Wx x 0 0 rest mw mw];simp;omega
section
variable {T:List Nat} {way n p:Nat} {body t4 r1 r2 r3 r4 r5:List Nat}
theorem st1(h:T=way :: r1)(hw:way<=1):Dr T=way/\hA1 T=1/\hE2 T=0:=by
 subst h;have h1:Dr (way :: r1)=way:=rfl;have h2:hE1 (way :: r1)=0:=by unfold hE1;rw[Jo];simp
 refine⟨h1,?_,?_⟩
 ·unfold hA1;rw[Jp];simp
 ·unfold hE2;rw[h1,h2,Aa mw]
theorem st2(h:T=way :: (fZ n++r2))(hw:way<=1)(hn:n<=32768):hN T=n/\hA2 T=1+(fZ n).length/\hE3 T=0:=by
 obtain⟨_,h2,h3⟩:=st1 h hw;have hd:T.drop 1=fZ n++r2:=nO
 refine⟨?_,?_,?_⟩
 ·unfold hN AY;rw[h2,h3,hd,JZ hn];simp
 ·unfold hA2 zZ;rw[h2,h3,hd,JZ hn];simp
 ·unfold hE3 AJ;rw[h2,h3,hd,JZ hn];simp
theorem st3(h:T=way :: (fZ n++(fZ p++r3)))(hw:way<=1)(hn:n<=32768)(hp:p<=32768)(i:n<=1032*p+64):hP T=p/\hA3 T=1+(fZ n).length+(fZ p).length/\hE5 T=0:=by
 obtain⟨h1,h2,h3⟩:=st2 h hw hn;have hd:T.drop (1+(fZ n).length)=fZ p++r3:=by rw[h,Nat.add_comm,List.drop_succ_cons,List.drop_left]
 have h4:hP T=p:=by unfold hP AY;rw[h2,h3,hd,JZ hp];simp
 refine⟨h4,?_,?_⟩
 ·unfold hA3 zZ;rw[h2,h3,hd,JZ hp];simp
 ·have h5:hE4 T=0:=by unfold hE4 AJ;rw[h2,h3,hd,JZ hp];simp
  unfold hE5;rw[h4,h1,Aa mw,h5]
theorem st4(h:T=way :: (fZ n++(fZ p++(body++r4))))(hw:way<=1)(hn:n<=32768)(hp:p<=32768)(i:n<=1032*p+64)(hb:body.length=p):CI T=body/\hA4 T=1+(fZ n).length+(fZ p).length+p/\hE6 T=0:=by
 obtain⟨h1,h2,h3⟩:=st3 h hw hn hp i;have hd:T.drop (1+(fZ n).length+(fZ p).length)=body++r4:=by rw[h,show 1+(fZ n).length+(fZ p).length=((fZ n).length+(fZ p).length)+1 by omega,List.drop_succ_cons,<-List.drop_drop,List.drop_left,List.drop_left]
 have hl:T.length=1+(fZ n).length+(fZ p).length+p+r4.length:=by rw[h];simp;omega
 refine⟨?_,?_,?_⟩
 ·unfold CI;rw[h1,h2,h3,Jz,Aa mw,hd,<-hb,List.take_left]
 ·unfold hA4;rw[h1,h2,h3,Jp,Aa mw]
 ·unfold hE6;rw[h1,h2,h3,Jo,Aa mw]
theorem st5(h:T=way :: (fZ n++(fZ p++(body++(t4++r5)))))(hw:way<=1)(hn:n<=32768)(hp:p<=32768)(i:n<=1032*p+64)(hb:body.length=p)(ht:t4.length=4):hA5 T=1+(fZ n).length+(fZ p).length+p+4/\hE7 T=0:=by
 obtain⟨_,h2,h3⟩:=st4 h hw hn hp i hb;have hl:T.length=1+(fZ n).length+(fZ p).length+p+4+r5.length:=by rw[h];simp;omega
 refine⟨?_,?_⟩
 ·unfold hA5;rw[h2,h3,Jp,Aa mw]
 ·unfold hE7;rw[h2,h3,Jo,Aa mw]
end
end Block
namespace Block
open NumPut Crc Nums
open Toks (Tk AW)
open Huff (B4 Cg word Ep bytesOf bytesOf_length)
theorem VU(l:List Nat):∀at_,B4 (Lz.Dg l at_)=((l.length-at_:Nat):Int):=by
 refine Lz.OK (l:=l) (fun at_ h=> ?_) (fun at_ h h3 ih=> ?_) (fun at_ h h3 ih=> ?_)
 ·rw[Lz.L2 h,B4];omega
 ·have:=Lz.Ku (l:=l) (at_:=at_) mw;rw[Lz.Kw h h3,B4,ih];simp only;omega
 ·rw[Lz.Ko h h3,B4,ih];simp only;omega
theorem UR{ls lf:List Nat}:∀ {ts:List Tk},(∀t∈ts,AW t.lit t.len t.dist=true/\ls.getD (Toks.oZ t).sym.toNat 0≠0/\(t.len≠0->lf.getD (Toks.oZ t).dist.toNat 0≠0))->B4 ts<=129*((ts.flatMap (TW.BH ls lf)).length:Int)
 | [],_=>by simp[B4]
 |t :: ts,h=>by
  obtain⟨h0,h1,h2⟩:=h t oK;have ih:=UR (ls:=ls) (lf:=lf) (ts:=ts) (fun x hx=>h x (BR _ hx));rw[Cm,Ae,B4];have hw:=Ep ls (Toks.oZ t).sym.toNat
  have hl:max 1 t.len<=129*((TW.BH ls lf t).length:Int):=by
   unfold TW.BH;by_cases hz:t.len=0
   ·rw[Ab hz,BZ,hw,hz];omega
   ·have h3:=h2 hz;have i:=Ep lf (Toks.oZ t).dist.toNat;unfold AW at h0;rw[Aa hz]at h0;have h0:=of_decide_eq_true h0;rw[Aa hz];simp only[List.length_append,hw,i];omega
  push_cast
  omega
theorem kV{bs:List Nat}(h8:∀x∈bs,x<=255)(hz:sqz bs=true):(sqO bs).length<bs.length/\bs.length<=1032*(sqO bs).length+64/\Cg (sqO bs) bs.length=(Lz.find bs,0):=by
 unfold sqz at hz;simp only[Bool.and_eq_true,beq_iff_eq,decide_eq_true_eq]at hz;obtain⟨hE,hl⟩:=hz
 have y:Toks.Dc (Lz.find bs)=true:=by
  unfold sqE TW.Ih at hE;split at hE
  ·cases hE
  ·split at hE
   ·assumption
   ·cases hE
 have h:∀t∈Lz.find bs,0<=t.lit/\t.lit<=255:=fun t ht=>((Lz.find_ok h8 0).1 t ht).1;have hO:sqO bs=bytesOf (TW.Fc (Lz.find bs)):=by unfold sqO TW.GC;exact Ab hE
 have G:B4 (Lz.find bs)=(bs.length:Int):=VU bs 0
 have z:∀t∈Lz.find bs,AW t.lit t.len t.dist=true/\(TW.lsS (Lz.find bs)).getD (Toks.oZ t).sym.toNat 0≠0/\(t.len≠0->(TW.lsF (Lz.find bs)).getD (Toks.oZ t).dist.toNat 0≠0):=by
  intro t ht;have i:=y;unfold Toks.Dc at i;have hm:=FJ.1 i t ht;obtain⟨S,D,L,F,j,hS,hD,_⟩:=Toks.Mm t (h t ht).1 (h t ht).2 hm;have e1:(Toks.oZ t).sym.toNat=S:=by rw[j];rfl
  have e2:(Toks.oZ t).dist.toNat=D:=by rw[j];rfl
  exact⟨hm,TW.Py ht mw,fun h0=>TW.Ps ht h0 mw⟩
 have hb:=UR z;have J:((Lz.find bs).flatMap (TW.BH (TW.lsS (Lz.find bs)) (TW.lsF (Lz.find bs)))).length<=(TW.Fc (Lz.find bs)).length:=by unfold TW.Fc;simp only[List.length_append];omega
 have E:=bytesOf_length (TW.Fc (Lz.find bs));rw[<-hO]at E;refine⟨hl,mw,?_⟩;rw[hO,TW.iF h y,Aa mw,Ab mw]
theorem jX(bs:List Nat)(plain:Bool):Gp bs plain<=1:=by unfold Gp;split<;>omega
theorem lI{bs:List Nat}(plain:Bool)(h8:∀x∈bs,x<=255):(Dx bs plain).length<=bs.length/\bs.length<=1032*(Dx bs plain).length+64/\byE (Gp bs plain) bs.length (Dx bs plain).length (Dx bs plain)=0/\byO (Gp bs plain) bs.length (Dx bs plain).length (Dx bs plain)=bs:=by
 unfold Dx Gp;cases hc:(!plain&&sqz bs)
 ·simp only[Bool.false_eq_true,if_false];have h0:byE 0 bs.length bs.length bs=0:=by unfold byE;simp
  refine⟨Ak _,mw,h0,?_⟩;unfold byO;rw[h0];simp
 ·simp only[if_true]
  have hz:sqz bs=true:=by
   cases hz:sqz bs
   ·rw[hz,Bool.and_false]at hc;cases hc
   ·rfl
  obtain⟨h1,h2,h3⟩:=kV h8 hz;have hp:Lz.Fm (Lz.find bs) (bs.length:Int)=(bs,0):=Lz.WX h8 mw;have h0:byE 1 bs.length (sqO bs).length (sqO bs)=0:=by unfold byE;rw[h3,Aa mw];simp only;rw[hp];simp
  refine⟨mw,mw,h0,?_⟩;unfold byO;rw[h0,h3,Aa oK,Aa mw];simp only;rw[hp]
theorem aG(s:Nat):(CJ s).length=4:=rfl
theorem dU(bs:List Nat)(plain:Bool)(more:List Nat):Bm bs plain++more=Gp bs plain :: (fZ bs.length++(fZ (Dx bs plain).length++(Dx bs plain++(CJ (Ce (Dn bs plain))++more)))):=by unfold Bm Dn Iz;simp
theorem cQ(bs:List Nat)(plain:Bool):(Dn bs plain).length=1+(fZ bs.length).length+(fZ (Dx bs plain).length).length+(Dx bs plain).length:=by unfold Dn Iz;simp;omega
theorem Pf(bs:List Nat)(plain:Bool):(Bm bs plain).length=(Dn bs plain).length+4:=by unfold Bm;rw[Ae];rfl
theorem Tj{bs:List Nat}(plain:Bool)(more:List Nat)(h8:∀x∈bs,x<=255)(hN:bs.length<=32768):
 opE (Bm bs plain++more)=0/\opO (Bm bs plain++more)=bs/\opA (Bm bs plain++more)=(Bm bs plain).length:=by
 obtain⟨b1,b2,b3,b4⟩:=lI plain h8;have hw:=jX bs plain;have he:=dU bs plain more;obtain⟨T,hT⟩:=ii (Bm bs plain++more);rw[<-hT]at he ⊢;obtain⟨s1,_,_⟩:=st1 he hw;obtain⟨s2,_,_⟩:=st2 he hw hN;obtain⟨s3,_,_⟩:=st3 he hw hN mw b2;obtain⟨s4,_,_⟩:=st4 he hw hN mw b2 rfl;obtain⟨s5,s7⟩:=st5 he hw hN mw b2 rfl (aG _);have hl:hA5 T=(Bm bs plain).length:=by rw[s5,Pf,cQ]
 have h:hE8 T=0:=by
  unfold hE8;rw[s7,Aa oK,hl,hT,List.take_left];unfold Cw;have e1:(Bm bs plain).length-4=(Dn bs plain).length:=by rw[Pf];omega
  rw[e1,Aa (by rw[Pf];omega)];have e2:(Bm bs plain).take (Dn bs plain).length=Dn bs plain:=by unfold Bm;exact List.take_left
  have e3:(Bm bs plain).drop (Dn bs plain).length=CJ (Ce (Dn bs plain)):=by unfold Bm;exact List.drop_left
  rw[e2,e3,Ab rfl]
 have hE:opE T=0:=by unfold opE;rw[h,Aa oK,s1,s2,s3,s4,b3]
 refine⟨hE,?_,?_⟩
 ·unfold opO;rw[hE,Aa oK,s1,s2,s3,s4,b4]
 ·unfold opA;rw[hE,Aa oK,hl]
end Block
namespace Block
open Go.RowKit Mem Own Canon
open Nums Crc NumPut
end Block
namespace Block
open Go.RowKit Mem Own Canon
open Nums Crc NumPut
end Block
namespace One
open Recs Block Nums NumPut Opts Crc
theorem VJ:∀ (x i j:Nat) (rest:List Nat),i<=9->x*2 ^ (7*i)<18446744073709551616->(0<i->0<x)->Bg (fZ x++rest) i j=(j+x*2 ^ (7*i),i+(fZ x).length,0):=by
 intro x
 induction x using Nat.strongRecOn with
 |_ x ih=>
  intro i j rest hl hx hi;by_cases h:x<128
  ·have h9:i=9->x=1:=fun e=>by subst e;have:=hi mw;have e9:(2:Nat) ^ (7*9)=9223372036854775808:=ip;rw[e9]at hx;omega
   rw[EM h];rw[DH,Fq,Bg,Aa mw,Ab h,Nat.mod_eq_of_lt h];rfl
  ·have hb:=Mt hx mw;rw[FZ h];rw[DH,Bg,Aa mw,Aa mw,ih (x / 128) mw (i+1) _ rest mw hb.2 mw];have e1:(x % 128+128) % 128=x % 128:=mw;have e2:2 ^ (7*(i+1))=128*2 ^ (7*i):=nV;have e3:x*2 ^ (7*i)=x % 128*2 ^ (7*i)+x / 128*(128*2 ^ (7*i)):=(by rw[<-Nat.mul_assoc,<-Ez];congr 1;omega);rw[e1,e2,e3,AD];simp only[Prod.mk.injEq,and_true];omega
theorem UN(h:x<18446744073709551616)(rest:List Nat):Bg (fZ x++rest) 0 0=(x,(fZ x).length,0):=by rw[VJ x 0 0 rest mw pf mw];simp
theorem NE{most:Nat}(h:x<=most)(hm:most<=1000000000)(rest:List Nat):Bx most (fZ x++rest)=(x,(fZ x).length,0):=by unfold Bx;rw[UN mw rest];simp;omega
theorem Ub{s:ByteArray}(h:s.size<=4000)(rest:List Nat):Cf 4000 (BC s++rest)=(sB s,(BC s).length,0):=by have hl:(sB s).length=s.size:=La s;unfold Cf BC;rw[AE,NE h mw];simp only[List.length_append,hl,List.drop_left];rw[Aa oK,Aa mw,<-hl,List.take_left]
theorem Ek{bs a b:List Nat}{k:Nat}(h:bs.drop k=a++b):bs.drop (k+a.length)=b:=by rw[<-List.drop_drop,h,List.drop_left]
end One
namespace Open
open Go.ChangeShapes Go.WideShapes Go.RowKit Go.Joins Go.Deep Mem Recs Opts
theorem jD{H:Type}{enc:TypeId×Value->H}{spare:Nat->Bool}{fuel:Nat}{A:Option Addr}{len z:Nat}{x:DataW H×List MemPlace}
 (h:DataW.trod enc prog w base spare held fuel 24 [.slice A len z]=some x):
 ∃la:List Rec,la.length=len/\Row w w A len 4 (BP la)/\len<=z/\len<=9223372036854775807/\∀r∈la,B8 r:=by
 obtain⟨h1,h2,h3⟩:=mF underlying24 underlying43 mr mr ip 4 rfl h;refine⟨(List.range len).map fun i=>⟨Iy w A (i*4),Iy w A (i*4+1),Ix w A (i*4+2),Ix w A (i*4+3)⟩,oK,?_,h1,by unfold maxLen at h2;omega,?_⟩
 ·intro hn;obtain⟨b,y,rfl,hb,hc⟩:=h3 hn;refine⟨b,y,rfl,hb,fun i j hi hj=> ?_⟩
  have hg:((List.range len).map fun i=>(⟨Iy w (some ⟨b,y,none⟩) (i*4),Iy w (some ⟨b,y,none⟩) (i*4+1),Ix w (some ⟨b,y,none⟩) (i*4+2),Ix w (some ⟨b,y,none⟩) (i*4+3)⟩:Rec)).getD i FP=
   ⟨Iy w (some ⟨b,y,none⟩) (i*4),Iy w (some ⟨b,y,none⟩) (i*4+1),Ix w (some ⟨b,y,none⟩) (i*4+2),Ix w (some ⟨b,y,none⟩) (i*4+3)⟩:=by
   simp[List.getD,hi]
  unfold BP;rw[hg]
  match j,hj with
  |0,_=>obtain⟨v0,y0,n0,c0,t0⟩:=hc i hi 0 _ rfl;obtain⟨x0,e0,_,w0⟩:=DataW.trod_int underlying41 t0;simp only[List.cons.injEq,and_true]at e0;subst e0;rw[MR (k:=i*4) c0];exact c0
  |1,_=>obtain⟨v0,y0,n0,c0,t0⟩:=hc i hi 1 _ rfl;obtain⟨x0,e0,_,w0⟩:=DataW.trod_int underlying5 t0;simp only[List.cons.injEq,and_true]at e0;subst e0;rw[MR c0];exact c0
  |2,_=>obtain⟨v0,y0,n0,c0,t0⟩:=hc i hi 2 _ rfl;obtain⟨x0,e0,_,w0⟩:=DataW.trod_string underlying9 t0;simp only[List.cons.injEq,and_true]at e0;subst e0;rw[TO c0];exact c0
  |3,_=>obtain⟨v0,y0,n0,c0,t0⟩:=hc i hi 3 _ rfl;obtain⟨x0,e0,_,w0⟩:=DataW.trod_string underlying9 t0;simp only[List.cons.injEq,and_true]at e0;subst e0;rw[TO c0];exact c0
 ·intro r hr;obtain⟨i,hi,rfl⟩:=Ck.1 hr;have hi:=Fs.1 hi;obtain⟨b,y,rfl,hb,hc⟩:=h3 mw;obtain⟨v0,y0,n0,c0,t0⟩:=hc i hi 0 _ rfl;obtain⟨x0,e0,_,w0⟩:=DataW.trod_int underlying41 t0;simp only[List.cons.injEq,and_true]at e0;subst e0;obtain⟨v1,y1,n1,c1,t1⟩:=hc i hi 1 _ rfl;obtain⟨x1,e1,_,w1⟩:=DataW.trod_int underlying5 t1;simp only[List.cons.injEq,and_true]at e1;subst e1;have b0:=bounds_u64 w0;have b1:=bounds_u8 w1;show B8 ⟨_,_,_,_⟩;unfold B8;simp only;rw[MR (k:=i*4) c0,MR (k:=i*4+1) c1];omega
theorem Gi{α:Type}{l:List α}{n:Nat}(h:l.length=n+1):∃c t,l=c :: t/\t.length=n:=by
 cases l with
 |nil=>cases h
 |cons c t=>exact⟨c,t,rfl,Nat.succ.inj h⟩
theorem mD{α:Type}{a:Array α}(h:a.size=6):∃c0 c1 c2 c3 c4 c5,a=#[c0,c1,c2,c3,c4,c5]:=by obtain⟨l⟩:=a;obtain⟨c0,t0,rfl,h0⟩:=Gi (n:=5) h;obtain⟨c1,t1,rfl,h1⟩:=Gi h0;obtain⟨c2,t2,rfl,h2⟩:=Gi h1;obtain⟨c3,t3,rfl,h3⟩:=Gi h2;obtain⟨c4,t4,rfl,h4⟩:=Gi h3;obtain⟨c5,t5,rfl,h5⟩:=Gi h4;obtain rfl:=Vt.1 h5;exact⟨c0,c1,c2,c3,c4,c5,rfl⟩
theorem Vz{P:Program}{H:Type}{enc:TypeId×Value->H}{spare:Nat->Bool}{r:Reach}{t:TypeId}{f0 f1 f2 f3 f4 f5:Field}{v:Value}{d:DataW H}{p:List MemPlace}(hs:P.underlying t=some (.struct #[f0,f1,f2,f3,f4,f5]))(i:oneCellFields P #[f0,f1,f2,f3,f4,f5]=true)(hC:P.cellsOf t=6)
 (hv:Value.okWide P w r b0 t v)(h:DataW.Trod enc P w base spare held t v d p):
 ∃ (v0 v1 v2 v3 v4 v5:Value) (y0 y1 y2 y3 y4 y5:DataW H×List MemPlace) (n:Nat),v= .agg #[v0,v1,v2,v3,v4,v5]/\
  DataW.trod enc P w base spare held n f0.type [v0]=some y0/\DataW.trod enc P w base spare held n f1.type [v1]=some y1/\DataW.trod enc P w base spare held n f2.type [v2]=some y2/\DataW.trod enc P w base spare held n f3.type [v3]=some y3/\DataW.trod enc P w base spare held n f4.type [v4]=some y4/\DataW.trod enc P w base spare held n f5.type [v5]=some y5:=by
 obtain⟨cs,rfl,y⟩:=okWide_struct hs hv;obtain⟨c0,c1,c2,c3,c4,c5,rfl⟩:=mD (y.trans hC);obtain⟨fuel,hf⟩:=h;obtain⟨xs,n,_,_,hl,j,hf⟩:=DataW.trod_struct hs hf;obtain⟨y0,t0,rfl,l0⟩:=Gi (n:=5) j;obtain⟨y1,t1,rfl,l1⟩:=Gi l0;obtain⟨y2,t2,rfl,l2⟩:=Gi l1;obtain⟨y3,t3,rfl,l3⟩:=Gi l2;obtain⟨y4,t4,rfl,l4⟩:=Gi l3;obtain⟨y5,t5,rfl,l5⟩:=Gi l4;obtain rfl:=Vt.1 l5;obtain⟨o0,k0⟩:=hone_of i 0 f0 rfl;obtain⟨o1,k1⟩:=hone_of i 1 f1 rfl;obtain⟨o2,k2⟩:=hone_of i 2 f2 rfl;obtain⟨o3,k3⟩:=hone_of i 3 f3 rfl;obtain⟨o4,k4⟩:=hone_of i 4 f4 rfl;obtain⟨o5,k5⟩:=hone_of i 5 f5 rfl;exact⟨c0,c1,c2,c3,c4,c5,y0,y1,y2,y3,y4,y5,n,rfl,by simpa[Value.cells,o0,k0]using hf 0 f0 rfl,by simpa[Value.cells,o1,k1]using hf 1 f1 rfl,by simpa[Value.cells,o2,k2]using hf 2 f2 rfl,by simpa[Value.cells,o3,k3]using hf 3 f3 rfl,by simpa[Value.cells,o4,k4]using hf 4 f4 rfl,by simpa[Value.cells,o5,k5]using hf 5 f5 rfl⟩
set_option maxRecDepth 100000 in
theorem opts{H:Type}{enc:TypeId×Value->H}{spare:Nat->Bool}{r:Reach}{v:Value}{d:DataW H}{p:List MemPlace}
 (hv:Value.okWide prog w r b0 23 v)(h:DataW.Trod enc prog w base spare held 23 v d p):∃o:Opt,v=o.val:=by
 obtain⟨c0,c1,c2,c3,c4,c5,y0,y1,y2,y3,y4,y5,n,rfl,h0,h1,h2,h3,h4,h5⟩:=Vz underlying23 mr mr hv h;obtain⟨x0,e0,_,_⟩:=DataW.trod_int underlying3 h0;obtain⟨x1,e1,_⟩:=DataW.trod_bool underlying4 h1;obtain⟨x2,e2,_,_⟩:=DataW.trod_int underlying3 h2;obtain⟨x3,e3,_,_⟩:=DataW.trod_int underlying3 h3;obtain⟨x4,e4,_,_⟩:=DataW.trod_int underlying3 h4;obtain⟨x5,e5,_,_⟩:=DataW.trod_int underlying3 h5;simp only[List.cons.injEq,and_true]at e0 e1 e2 e3 e4 e5;subst e0 e1 e2 e3 e4 e5;exact⟨⟨x0,x1,x2,x3,x4,x5⟩,rfl⟩
end Open
end Go.Proofs.YtfgdoknipbpfhaaGreatDoor
