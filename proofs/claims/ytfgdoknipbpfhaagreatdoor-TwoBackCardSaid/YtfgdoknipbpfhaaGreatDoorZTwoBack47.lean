/- The columns of a log -/
import Derived.Test.YtfgdoknipbpfhaaGreatDoorZTwoBack22
import Derived.Lib.Zigzag
namespace Go.Proofs.YtfgdoknipbpfhaaGreatDoor
open Go.Proofs.Tryz
open Go.Lib (hid)
set_option maxRecDepth 100000
variable{k:Nat}
open Go.RowKit
theorem a3i{p:Prop}(h:p:=by have HE:=hid e;clear hz e;go_enter func103,ntmps103;go_wp2_with fail;go_ret;exact⟨IR HE.out,rfl⟩):p:=h
theorem jK(w:World)(d:Nat)(hd:d<18446744073709551616):
 Calls prog 103 #[.int .u64 d] w fun e w'=>e= .returned (.int .u64 (GT d:Nat))/\w'=w:=by
 obtain⟨z,hz⟩:=ii (GT d);rw[<-hz];unfold GT at hz;by_cases h:d<9223372036854775808
 ·rw[Ab h]at hz;have e:bits .xor .u64 ((d:Int)*2) (-((d:Int) / 9223372036854775808))=(z:Int):=by rw[show(d:Int)*2=((2*d:Nat):Int) by omega,show-((d:Int) / 9223372036854775808)=((0:Nat):Int) by omega,bits_xor_u64_nat _ _ nj nj,Nat.xor_zero,hz]
  exact a3i
 ·rw[Aa h]at hz;have e:bits .xor .u64 (IntKind.u64.wrap ((d:Int)*2)) (IntKind.u64.wrap (-((d:Int) / 9223372036854775808)))=(z:Int):=by have e1:IntKind.u64.wrap ((d:Int)*2)=((2*d-18446744073709551616:Nat):Int):=pm;have e2:IntKind.u64.wrap (-((d:Int) / 9223372036854775808))=((2 ^ 64-1:Nat):Int):=pm;rw[e1,e2,bits_xor_u64_nat _ _ nj ip,Nat.xor_comm,Lib.xor_ones64 _ nj];omega
  exact a3i
def QY(l:List Rec)(w:World)(e:Ending)(w':World):Prop:=
 ∃v,e= .returned v/\w'.ownsRow w 5 1 v (DJ l).length (dZ .u8 (DJ l))/\Below w w w'
def lenV:Value->Nat
 | .slice _ n _=>n
 |_=>0
theorem qJ{x:Nat}{t:List Nat}{j:Nat}(h:∀i,i<j->t[i]? =some x)(h2:t[j]? =some x):∀i,i<j+1->t[i]? =some x:=fun i hi=>by
 by_cases e:i<j
 ·exact h i e
 ·obtain rfl:i=j:=by omega
  exact h2
theorem Tq{l:List Rec}{r:Rec}(h:l[k]? =some r):(Cj l)[k]? =some r.level.toNat:=by unfold Cj;rw[Co,h];rfl
theorem WD(l:List Rec):(Cj l).length=l.length:=by unfold Cj;rw[Bu]
theorem ZF{l:List Rec}{t0:Nat}{r:Rec}(hr:l[k]? =some r)(h:((BQ l).take k).getLast?.getD 0=t0):
 Cx stepT 0 ((BQ l).take (k+1))=Cx stepT 0 ((BQ l).take k)++fZ (GT (Je r.time.toNat t0))/\((BQ l).take (k+1)).getLast?.getD 0=r.time.toNat:=by
 have e:(BQ l).take (k+1)=(BQ l).take k++ [r.time.toNat]:=by
  have hg:(BQ l)[k]? =some r.time.toNat:=by unfold BQ;rw[Co,hr];rfl
  rw[Cw,hg];rfl
 rw[e,Rx,h];exact⟨rfl,rX⟩
theorem Zi(l:List Rec)(m i j:Nat):BW l (m+i) j=BW (l.drop m) i j:=by simp only[BW,List.getD_eq_getElem?_getD,List.getElem?_drop]
theorem UB{w:World}{B n m c:Nat}{A:Option Addr}{l:List Rec}(h:Row w B A n 4 (BW l))(hm:m<=n)(hc:n<=c):Row w B (AR A m c 4) (n-m) 4 (BW (l.drop m)):=
 h.cut m (n-m) nj hc (fun i j _ _=>Zi l m i j)
theorem a0i{p:Prop}(h:p:=by
  go_wp2_with fail;go_quiet (fail);obtain⟨wz,N⟩:=ii (wr.drewN nq);obtain⟨qd,a8⟩:=HD.out;have U:Hid (Below w w wz):=(by rw[N];exact below_drewN an.out nq);have al:Hid (wz.ownsRow w 5 1 u3 q' (dZ .u8 P)):=(by rw[N,a8];exact a5.out);rw[<-N];obtain⟨b3,bj,r3,hA3,_,G,_,d2,_,_⟩:=Row.rec (HR.out.below U.out) ag.out aj;injection hA3 with hA3;injection hA3 with e1 e2;subst e1 e2;have Y:r3=r:=ko;rw[Y,bx.out,Nat.zero_mul,Bt]at d2;have hf:=a6.out;rw[av.out,Nat.sub_add_cancel b4]at hf;have ba:(Cj l).drop (i+j)=t.drop (j-1):=(by rw[be.out,List.drop_drop];congr 1;omega);have aw:=qZ (x:=j) nj;have ae:=hid (fun wx=>DN.out wx j nj);have ju:IntKind.u64.wrap (j:Int)=(j:Int):=pm;have ks:=fun wx=>Gr (P:=prog) (t:=24) (s:=4) underlying24 (fun _=>by kernel_rfl) (some ⟨b,ai,none⟩) m c' .i64 (j:Int) j rfl aq wx;have ah:Hid (Row w w (AR (some ⟨b,ai,none⟩) j c' 4) (m-j) 4 (BW ((l.drop i).drop j))):=UB HR.out aq cm;rw[List.drop_drop]at ah;have a0:m-j<=c'-j:=nj;generalize AR (some ⟨b,ai,none⟩) j c' 4=A5 at *;generalize c'-j=c5 at *;obtain⟨m5,bc⟩:=ii (m-j);rw[<-bc]at ah a0 ks;have ab:Hid (m5+(i+j)=k/\m5<m):=⟨by have:=HI.out;omega,nj⟩;have ax:q'+1+(fZ j).length<=21000000:=jw;generalize fZ j=O at *;obtain⟨om,af⟩:=ii O.length;rw[<-af]at ae aw ax;have bS:=hid af;have bp:Hid ((P++ [x]++O)++lvB ((Cj l).drop (i+j))=CB):=(by show _=_;rw[ba,<-hf];simp);have bC:=U.out.size;have cB:=hid aq;clear N a8 Y G hf ba bc af HD a5 an av a4 a6 b1 be L am;go_wp2_with(at_builtin;refine iZ rfl (.tmp 46) (.tmp 51) 28 rfl w 5 j0 _ 1 1 underlying28 a7 a3 a1 ay rfl ip _ _ _ nm (al.out.alloc _) _ 1 1 [.int .u8 (x:Nat)] nm (Src.of_blk (Blk.made _ _ _) 1 1 1 rfl) mp sS nj sj ?_;intro v4 w4 E Q Z;obtain⟨A4,k4,rfl⟩:=bZ E;have aa:Hid (Below w w w4):=(pZ bC U.out).grown Q sj (fun y hy=>(Aj al.out y hy).1);have M:=hid E;clear E Q Z);refine(ae.out _).mono ?_;rintro e w5 ⟨v5,rfl,ak,ac⟩;obtain⟨A6,k6,rfl⟩:=bZ ak;have b7:Hid (Src w5 A6 om k6 1 (dZ .u8 O)):=Du ak;have ar:Hid (Below w w w5):=cZ ac aa.out;have bb:Hid (w5.ownsRow w 5 1 (.slice A4 (q'+1) k4) (q'+1) (dZ .u8 (P++ [x]))):=rp;have az:=ar.out.size;clear ak ac ae M aa U al;go_wp2_with(at_builtin;refine iZ rfl (.tmp 52) (.tmp 55) 28 rfl w 5 j0 _ 1 1 underlying28 a7 a3 a1 ay rfl ip _ _ _ nm bb.out _ _ _ _ nm b7.out (Ce _ _) sS nj az ?_;intro v7 w7 J a9 au);have b0:Hid (Below w w w7):=ar.out.grown a9 az (fun y hy=>(Aj bb.out y hy).1);have bk:Hid (w7.ownsRow w 5 1 v7 (q'+1+om) (dZ .u8 (P++ [x]++O))):=rq;clear J a9 au;go_roundw
  case measure=>go_light;simp[lenV];exact ab.out.2
  case rel=>exact jg):p:=h
set_option maxHeartbeats 4000000 in
theorem nC(w:World)(A:Option Addr)(n c:Nat)(l:List Rec)(hn:l.length=n)(hN:n<=1000000)(hc:n<=c)(bn:∀r∈l,BR r)(ha:Row w w A n 4 (BW l)):
 Calls prog 50 #[.slice A n c] w (QY l w):=by
 obtain⟨j0,a7,a3,a1,ay⟩:=info_parts Dh;have HN:=hid hn;have b8:=hid bn;have ct:=Lj bn nj;have co:Hid ((DJ l).length<=21000000):=rK
 have cl:Hid (DJ l=Cx stepT 0 (BQ l)++lvB (Cj l)):=rfl;have DZ:=hid (fun wx d hd=>jK wx d hd);have DN:=hid (fun wx x hx=>Gi wx x hx);unfold QY;clear hn bn ct;generalize DJ l=CB at *;go_enter func50,ntmps50;go_wp2_with fail;go_loopw [3,4,10] (fun u tv i wr=>∃ (k q t0:Nat),k<=n/\q<=10*k/\t0<18446744073709551616/\tv= .int .u64 t0/\i= .int .i64 k/\Hid ((Cx stepT 0 ((BQ l).take k)).length=q)/\Hid (((BQ l).take k).getLast?.getD 0=t0)/\Hid (wr.ownsRow w 5 1 u q (dZ .u8 (Cx stepT 0 ((BQ l).take k))))/\Hid (Below w w wr)) (fun _ _ i _=>n-(intOf i).toNat)
 case atStart=>exact⟨0,0,0,nj,nj,nj,rfl,rfl,rfl,rfl,AI _ _ _ _,Ae _ _⟩
 case round=>
  obtain⟨k,q,t0,hk,hq,cz,rfl,rfl,HQ,HL,HO,HB⟩:=hrel;have hz:=HB.out.size;by_cases aj:k<n
  ·obtain⟨b,ai,r,rfl,cw,hg,c0,c1,c2,c3⟩:=Row.rec (ha.below HB.out) HN.out aj;obtain⟨z0,z1,_,_⟩:=b8.out r (Bp hg);obtain⟨T,hT⟩:=I8 z0;obtain⟨L,bO⟩:=ZF hg HL.out;have L:=hid L;have bO:=hid bO;obtain⟨sb,bf⟩:=ii (Je r.time.toNat t0);have s1:IntKind.u64.wrap (r.time-(t0:Int))=(sb:Int):=(by rw[Bi,bf];unfold Je;omega);have bu:sb<18446744073709551616:=(by rw[bf];exact Om _ _);rw[<-bf]at L;have D1:=hid (fun wx=>DZ.out wx sb bu);have D2:=hid (fun wx=>DN.out wx (GT sb) (L6 bu));have aw:=qZ (L6 bu);generalize GT sb=z at *;generalize fZ z=O at *;obtain⟨m,hm⟩:=ii O.length;rw[<-hm]at D2 aw;have cA:=hid hm;have ci:Hid (r.time=(r.time.toNat:Int)/\r.time.toNat<18446744073709551616):=⟨nj,nj⟩;have x0:(0:Int)<=(k:Int):=nj;have x1:(k:Int)<(n:Int):=nj;clear hg hm bf hT z0 z1;go_wp2_with fail;refine(D1.out _).mono ?_;rintro e w1 ⟨rfl,rfl⟩;go_wp2_with fail;refine(D2.out _).mono ?_;rintro e w2 ⟨v2,rfl,bm,bd⟩;obtain⟨A2,d2,rfl⟩:=bZ bm;have b6:Hid (Src w2 A2 m d2 1 (dZ .u8 O)):=Du bm;have cg:Blk (wr.alloc (.cells #[.int .u64 r.time, .int .u8 r.level, .string r.source, .string r.text] 43)) wr 43 #[.int .u64 r.time, .int .u8 r.level, .string r.source, .string r.text]:=Blk.made _ _ _;have cf:=hid (cg.step bd);have b9:Hid (Below w w w2):=cZ bd (aZ HB.out);have bl:Hid (w2.ownsRow w 5 1 u3 q (dZ .u8 (Cx stepT 0 ((BQ l).take k)))):=eZ (HO.out.alloc (.cells #[.int .u64 r.time, .int .u8 r.level, .string r.source, .string r.text] 43)) (fun y hy=>bd.block y lc);have cc:=b9.out.size;have ca:Hid (Cx stepT 0 ((BQ l).take k)++O=Cx stepT 0 ((BQ l).take (k+1))):=L.out.symm;have cy:=hid (Aw List.length ca.out);clear bm bd D1 D2 c0 c1 c2 c3 HO HB cg L;go_wp2_with(at_builtin;refine iZ rfl (.tmp 14) (.tmp 20) 28 rfl w 5 j0 _ 1 1 underlying28 a7 a3 a1 ay rfl ip _ _ _ nm bl.out _ _ _ _ nm b6.out (Ce _ _) sS nj cc ?_;intro v4 w4 E Q Z;have c4:w4.cell? ⟨wr,0,none⟩=some (.int .u64 r.time):=(cf.out.grown Q (fun e=>gZ bl.out cf.out ip e.symm)).cell 0);have aa:Hid (Below w w w4):=b9.out.grown Q cc (fun y hy=>(Aj bl.out y hy).1);have M:Hid (w4.ownsRow w 5 1 v4 (q+m) (dZ .u8 (Cx stepT 0 ((BQ l).take (k+1))))):=(by rw[<-ca.out,show dZ .u8 (Cx stepT 0 ((BQ l).take k)++O)=dZ .u8 (Cx stepT 0 ((BQ l).take k))++dZ .u8 O by simp[dZ]];exact E);clear E Q Z;go_roundw
   case measure=>exact jq
   case rel=>go_light;exact⟨k+1,q+m,r.time.toNat,nj,nj,ci.out.2,by rw[<-ci.out.1],iw,by show _=_;rw[<-cy.out,Ag,HQ.out,cA.out],bO.out,M.out,aa.out⟩
  ·obtain rfl:k=n:=by omega
   have h1:(BQ l).take k=BQ l:=Cf (by unfold BQ;rw[Bu,HN.out];exact Ak _);rw[h1]at HO HQ;have cv:Hid (Row w w A k 4 (BW l)):=ha;have bi:Hid (Cx stepT 0 (BQ l)++lvB ((Cj l).drop 0)=CB):=cl.out.symm;clear h1 HL DZ cl ha cz;generalize Cx stepT 0 (BQ l)=T0 at *;go_wp2_with fail;go_loopw [0,3] (fun lv u wx=>∃ (i q' m c':Nat) (A':Option Addr) (P:List Nat),m<=1000000/\q'<=21000000/\m<=c'/\lv= .slice A' m c'/\Hid (m+i=k)/\Hid (P.length=q')/\Hid (P++lvB ((Cj l).drop i)=CB)/\Hid (Row w w A' m 4 (BW (l.drop i)))/\Hid (wx.ownsRow w 5 1 u q' (dZ .u8 P))/\Hid (Below w w wx)) (fun lv _ _=>lenV lv)
   case atStart=>exact⟨0,q,k,c,A,T0,hN,nj,hc,rfl,rfl,HQ.out,bi.out,by show Row _ _ _ _ _ _;rw[I7];exact cv.out,HO.out,HB.out⟩
   case round=>
    obtain⟨i,q',m,c',A',P,hm,cG,cm,rfl,HI,HP,HF,HR,a5,bq⟩:=hrel;have ag:Hid ((l.drop i).length=m):=(by show _=_;rw[AQ,HN.out];have:=HI.out;omega);obtain⟨w0,rfl⟩:=ii wr;clear HO HB HQ hz bi;by_cases aj:0<m
    ·obtain⟨b,ai,r,rfl,cw,hg,d0,d1,d2,d3⟩:=Row.rec (HR.out.below bq.out) ag.out aj;have a4:=hid hg;have b5:l[i]? =some r:=(by rw[Iy,Bt]at hg;exact hg);obtain⟨_,_,z2,z3⟩:=b8.out r (Bp b5);obtain⟨x,hx⟩:=I8 z2;have ce:(Cj l).drop i=x :: (Cj l).drop (i+1):=(by have cr:=Tq b5;obtain⟨cq,e⟩:=CQ.1 cr;rw[Dl cq,e];congr 1;omega);have hf:=HF.out;rw[ce,lvB]at hf;have a6:=hid hf;have cF:x<=255:=nj;rw[hx]at d1;have bh:∀j' rj,(l.drop i)[j'+1]? =some rj->((Cj l).drop (i+1))[j']? =some rj.level.toNat:=fun j' rj h=>by rw[Iy]at h ⊢;have:=Tq h;rw[show i+1+j'=i+(j'+1) by omega];exact this
     have am:=hid bh;have bx:=hid hx;have cj:((Cj l).drop (i+1)).length+1=m:=(by have:=ag.out;rw[AQ]at this;rw[AQ,WD];omega);have L:=hid cj;have x0:(0:Int)<(m:Int):=nj;clear hg b5 ce hf bh hx HF cj d0 d2 d3 z2 z3;obtain⟨t,ht⟩:=ii ((Cj l).drop (i+1));have be:=hid ht;rw[<-ht]at a6 am L;clear ht;clear d1;go_wp2_with fail;go_loopw [7] (fun nv wy=>∃j:Nat,1<=j/\j<=m/\nv= .int .i64 j/\Hid (∀a,a<j-1->t[a]? =some x)/\Hid (∃qd,wy=w0.drewN qd)) (fun nv _=>m-(intOf nv).toNat)
     case atStart=>exact⟨1,nj,nj,rfl,fun a h=>absurd h nj,0,rfl⟩
     case round=>
      obtain⟨j,b4,aq,rfl,HS,HD⟩:=hrel;have an:Hid (Below w w wr):=(by obtain⟨qd,h⟩:=HD.out;rw[h];exact below_drewN bq.out qd);have b1:∀qe,Hid (∃qd,wr.drewN qe=w0.drewN qd):=fun qe=>by obtain⟨qd,h⟩:=HD.out;exact⟨qd+qe,qz⟩
      by_cases cx:j<m
      ·have gj:=ic ((j:Int)<m);have cp:=ic (j<m);have y0:(0:Int)<=(j:Int):=nj;have y1:(j:Int)<(m:Int):=nj;obtain⟨b2,cC,r2,hA2,_,bt,_,d1,_,_⟩:=Row.rec (HR.out.below an.out) ag.out cx;injection hA2 with hA2;injection hA2 with e1 e2;subst e1 e2;obtain⟨b3,bj,r3,hA3,_,G,_,d2,_,_⟩:=Row.rec (HR.out.below an.out) ag.out aj;injection hA3 with hA3;injection hA3 with e1 e2;subst e1 e2;have Y:r3=r:=ko;rw[Y,bx.out,Nat.zero_mul,Bt]at d2;obtain⟨_,_,z2,z3⟩:=b8.out r2 (Bz (Bp bt));obtain⟨y,hy⟩:=I8 z2;rw[hy]at d1;have cd:t[j-1]? =some y:=(by have h:=am.out (j-1) r2 (by rw[Nat.sub_add_cancel b4];exact bt);rw[h,hy];rfl);have bg:=hid cd;have cE:y<=255:=nj;clear Y G bt hy cd z2 z3;by_cases bN:y=x
       ·subst bN;have ge:((y:Int)==(y:Int))=true:=rX;have s2:IntKind.i64.wrap ((j:Int)+1)=((j+1:Nat):Int):=pj;have b6:Hid (∀a,a<j+1-1->t[a]? =some y):=fun a ha=>qJ (j:=j-1) HS.out bg.out a nj;clear HS bg;go_wp2_with fail;go_quiet (fail);go_wp2_with fail;go_roundw
        case measure=>exact jq
        case rel=>go_light;exact⟨j+1,nj,nj,iw,b6.out,(b1 _).out⟩
       ·have ge:((y:Int)==(x:Int))=false:=pp;have av:Hid (lead x t=j-1):=QC x t (j-1) HS.out (by rw[bg.out];intro h;injection h with h;exact bN h);clear HS bg bN;exact a0i
      ·have gj:=ig ((j:Int)<m);have cp:=ig (j<m);have av:Hid (lead x t=j-1):=QC x t (j-1) HS.out (by rw[FN (by have:=L.out;omega)];simp);clear HS;exact a0i
    ·obtain rfl:m=0:=by omega
     have g0:=ig ((0:Int)<((0:Nat):Int));have hf:=HF.out;rw[El (by rw[WD,HN.out];have:=HI.out;omega),lvB,Cg]at hf;have cu:=hid hf;clear hf HF HR ag aj;go_wp2_with fail;go_ret;exact⟨_,rfl,by rw[<-cu.out,HP.out];exact a5.out,bq.out⟩
end Go.Proofs.YtfgdoknipbpfhaaGreatDoor
