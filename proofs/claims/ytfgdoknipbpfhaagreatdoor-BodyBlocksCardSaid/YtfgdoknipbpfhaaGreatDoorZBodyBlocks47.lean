/- The walk of a body's -/
import Derived.Test.YtfgdoknipbpfhaaGreatDoorZBodyBlocks41
namespace Go.Proofs.YtfgdoknipbpfhaaGreatDoor
open Go.Proofs.Tryz
open Go.Lib (hid)
set_option maxRecDepth 100000
namespace Body
open Go.RowKit Mem Own Canon Nums Recs Opts
open Crc (EQ Gu Fy TabAt)
open Block (opE opO opA U2 Mn Qd PL QL)
theorem ZK(w:World)(gb n c k:Nat)(A:Option Addr)(C:List Nat)(hc:w.cell? ⟨gb,0,none⟩=some (.slice A n c))(hn:C.length=n)(hN:n<=1000000)(hs:C.sum<=1000000000)(hk:k<=n)(i:n<=c)(hA:∀a,A=some a->a.add 0=a)(ha:Row w w A n 1 (jZ .i64 C)):
 Calls prog 124 #[.pointer (some ⟨gb,0,none⟩), .int .i64 (k:Nat)] w fun e w'=>e= .returned (.int .i64 ((C.take k).sum:Nat))/\w'=w:=by
 have h:(C.take k).sum<=C.sum:=Body.JD C k;have D:=hid (sum_any w A k c (C.take k) mQ mw mw (Gu ha hk));have ks:=fun wx=>Fy (P:=prog) (t:=37) (s:=1) underlying37 (fun _=>by kernel_rfl) A n c .i64 (k:Int) k rfl mw hA wx;generalize (C.take k).sum=S at *;clear hn ha hs h hA;go_enter func124,ntmps124;go_wp2_with fail;refine D.out.mono ?_;rintro e w1 ⟨rfl,rfl⟩;go_wp2_with fail;go_ret;exact⟨rfl,rfl⟩
set_option maxHeartbeats 4000000 in
theorem XU(w:World)(base gb k:Nat)(C S T L:List Nat)(X:List Idx.Str×List (List Nat))(F:List (List Nat))(K:List Bool)(hk:k<F.length)(aw:C.length=F.length)(hT:T.length=C.sum)(hL:L.length=C.sum)(hF:∀f∈F,f.length<=100000/\∀x∈f,x<=255)(hN:C.sum<=20000)(bg:F.length<=20000)(ht:TabAt w)(bj:BodyAt w base gb C S T L X F K):
 Calls prog 63 #[.pointer (some ⟨gb,0,none⟩), .int .i64 (k:Nat)] w (Nx C T L F k w):=by
 obtain⟨vc,vs,p,q,vt,vl,vT,vL,vF,va,vals,fv,h0,h1,h2,h3,h4,h5,h6,h7⟩:=bj;have bu:fv.length=F.length:=by have:=h6.l.1;omega
 obtain⟨f,hf⟩:∃f,F[k]? =some f:=⟨_,Az hk⟩;obtain⟨u,hu⟩:∃u,fv[k]? =some u:=⟨_,Az mw⟩;have J:=h6.r k u f hu hf;have al:F.getD k []=f:=by rw[Am,hf];rfl
 obtain⟨cn,aq⟩:∃cn,C[k]? =some cn:=⟨_,Az mw⟩;have ar:C.getD k 0=cn:=by rw[Am,aq];rfl
 have bl:(C.take k).sum+cn<=C.sum:=by rw[<-ar];exact aE k
 have ac:=hF f (Be hf);have z:=h6.l;have E:=hid (show Fj C F k=if opE f≠0 then opE f else if opA f<f.length then 2 else if(FV (opO f)).2≠0 then(FV (opO f)).2 else if(FV (opO f)).1.length≠cn then 2 else 0 by unfold Fj;rw[al,ar]);have M:Hid (Fj C F k=0->GP C T L F k=Du T L (C.take k).sum (FV (opO f)).1):=fun h=>by unfold GP;rw[Ab h,al]
 obtain⟨nf,az⟩:=ii F.length;obtain⟨kc,af⟩:=ii C.length;obtain⟨nt,a3⟩:=ii T.length;obtain⟨nl,ay⟩:=ii L.length;obtain⟨n,hn⟩:=ii f.length;rw[<-az]at z hk bg aw;rw[<-af]at h1 aw;rw[<-a3]at h3 hT;rw[<-ay]at h4 hL;rw[<-hn]at J;obtain⟨Ac,dC,rfl⟩:=bZ h1;obtain⟨At,ct,rfl⟩:=bZ h3;obtain⟨Al,cl,rfl⟩:=bZ h4;obtain⟨AF,dF,rfl⟩:=bZ z;obtain⟨Af,cf,rfl⟩:=bZ J;obtain⟨gF,b0,bC,ba,_⟩:=z.form mw;injection bC with q1 q2 q3;subst q1 q3;clear q2;obtain⟨gC,b3,bm,bx,_⟩:=h1.form mw;injection bm with q1 q2 q3;subst q1 q3;clear q2;have cF:=(z.cellAt k mw).trans hu;have cC:w.cell? ⟨gC,k,none⟩=some (.int .i64 (cn:Nat)):=by rw[h1.cellAt k mw];unfold cZ;rw[BG,aq];rfl
 have HS:Hid (∀wx,Below w w wx->wx.cell? ⟨gb,8,none⟩=some (.slice (some ⟨gF,0,none⟩) nf dF)/\wx.cell? ⟨gF,k,none⟩=some (.slice Af n cf)/\wx.cell? ⟨gb,0,none⟩=some (.slice (some ⟨gC,0,none⟩) kc dC)/\wx.cell? ⟨gC,k,none⟩=some (.int .i64 (cn:Nat))/\wx.cell? ⟨gb,4,none⟩=some (.slice At nt ct)/\wx.cell? ⟨gb,5,none⟩=some (.slice Al nl cl)):=fun wx hb=>⟨(h0.step hb).cell 8,(hb.cell (p:=⟨gF,k,none⟩) (Aj z gF rfl).2).trans cF,(h0.step hb).cell 0,(hb.cell (p:=⟨gC,k,none⟩) (Aj h1 gC rfl).2).trans cC,(h0.step hb).cell 4,(h0.step hb).cell 5⟩;have Z:=ac.2;have bn:=PL Z;have a4:=QL Z;have bf:=hid a4;have a9:Hid ((opO f).length<=100000):=by show _<=_;have:=ac.1;omega
 have Q:=Ef.own_row J hn.symm;have D1:=hid (U2 w f Af n cf hn.symm (by have:=ac.1;omega) (Em J).2 (Em J).1 (fun h=>Qd Q mw) Z ht Q);unfold Mn at D1;have DF:=hid (fun wx (hb:Below w w wx)=>ZK wx gb kc dC k (some ⟨gC,0,none⟩) C (HS.out wx hb).2.2.1 af.symm mw mw mw (Em h1).2 (fun a ha=>by injection ha with ha;subst ha;rfl) (Ef.own_row (eZ h1 fun y hy=>hb.block y (Aj h1 y hy).2) af.symm));have HT:Hid (∀wx i,Below w w wx->i<nt->∃g,At=some ⟨g,0,none⟩/\wx.cell? ⟨g,i,none⟩=some (.int .u64 (T.getD i 0:Nat))):=fun wx i hb hi=>by obtain⟨b,cX,hA,hg,_⟩:=h3.form mw;injection hA with q1 q2 q3;subst q1;have h:=h3.cellAt i mw;refine⟨b,rfl,(hb.cell (p:=⟨b,i,none⟩) (Aj h3 b rfl).2).trans (h.trans ?_)⟩;unfold cZ;rw[BG,Am,Az mw];rfl
 have HL:Hid (∀wx i,Below w w wx->i<nl->∃g,Al=some ⟨g,0,none⟩/\wx.cell? ⟨g,i,none⟩=some (.int .u8 (L.getD i 0:Nat))):=fun wx i hb hi=>by obtain⟨b,cX,hA,hg,_⟩:=h4.form mw;injection hA with q1 q2 q3;subst q1;have h:=h4.cellAt i mw;refine⟨b,rfl,(hb.cell (p:=⟨b,i,none⟩) (Aj h4 b rfl).2).trans (h.trans ?_)⟩;unfold cZ;rw[BG,Am,Az mw];rfl
 obtain⟨s1,s2,s3,s4,s5,s6⟩:=HS.out w (Ag _ _);have ca:(k:Int)<(nf:Int):=mw
 have bS:(k:Int)<(kc:Int):=mw
 have b6:(0:Int)<=(k:Int):=mw
 have Y:Hid ((C.take k).sum+cn<=nt/\(C.take k).sum+cn<=nl/\(C.take k).sum+cn<=20000):=by show _/\_;omega
 generalize (C.take k).sum=a0 at *;have ab:Hid (f.length=n):=hn.symm;clear h0 h1 h2 h3 h4 h5 h6 h7 z J hu hf al aq ar bl ac hn az af a3 ay Z bn a4 Q cF cC hT hL hF hN ht ba bx bu aw;go_enter func63,ntmps63;go_wp2_with fail;refine D1.out.mono ?_;rintro e w1 ⟨v1,rfl,G,N⟩;obtain⟨A1,c1,rfl⟩:=bZ G;have B1:=hid N;obtain⟨s1,s2,s3,s4,s5,s6⟩:=HS.out w1 N;have am:=N.size;by_cases j:opE f=0
 ·have hE:=E.out;rw[Aa (by simp[j])]at hE;rw[j];by_cases ae:opA f<f.length
  ·rw[Ab ae]at hE;have HE:=hid hE;have ga:decide ((opA f:Int)<(n:Int))=true:=oS;have bb:decide (opA f<n)=true:=oS;generalize opA f=oa at *;clear E hE G N D1 DF j ae HT HL Y M HS;go_wp2_with fail;go_ret2;exact Me HE.out ip B1.out
  ·rw[Aa ae]at hE;have ga:decide ((opA f:Int)<(n:Int))=false:=oS;have bb:decide (opA f<n)=false:=oS;have D2:=hid (Y9 w1 A1 _ c1 (opO f) rfl a9.out bf.out (Em G).1 (Ef.own_row G rfl));unfold R6 at D2;generalize opA f=oa at *;generalize hR:FV (opO f)=R at *;generalize (opO f).length=lo at *;obtain⟨R,re⟩:=R;simp only at hE D2;have HE:=hid hE;clear E hE G N D1 j ae hR;go_wp2_with fail;refine D2.out.mono ?_;rintro e w2 ⟨v2,rfl,aa,aj⟩;obtain⟨m,hm⟩:=ii R.length;rw[<-hm]at aa;obtain⟨A2,c2,rfl⟩:=bZ aa;have B2:Hid (Below w w w2):=B1.out.trans (aj.mono am);obtain⟨s1,s2,s3,s4,s5,s6⟩:=HS.out w2 B2.out;have bt:Hid (w2.ownsRow w1 43 4 (.slice A2 m c2) m (Ct R)):=aa;have bi:=hid aj;have HM:=hid hm;clear aa aj D2 hm;by_cases U:re=0
   ·subst U;by_cases a5:m=cn
    ·subst a5;have gm:((m:Int) != (m:Int))=false:=oK;have a6:Hid (Fj C F k=0):=(by have h:=HE.out;rw[Aa oK,Aa (by simp[HM.out])]at h;exact h);have a1:Hid (GP C T L F k=Du T L a0 R):=M.out a6.out;have D3:=hid (DF.out w2 B2.out);obtain⟨l1,l2,l3⟩:=Y.out;clear HE M DF;go_wp2_with fail;refine D3.out.mono ?_;rintro e w3 ⟨rfl,rfl⟩;clear D3;go_wp2_with fail;go_loopw [67] (fun iv wr=>∃i:Nat,i<=m/\iv= .int .i64 i/\Hid (wr.ownsRow w1 43 4 (.slice A2 m c2) m (Ct (EY T L a0 R i)))/\Hid (Below w1 w1 wr)) (fun iv _=>m-(intOf iv).toNat)
     case atStart=>exact⟨0,mw,rfl,by rw[iC];exact bt.out,bi.out⟩
     case round=>
      obtain⟨i,hi,rfl,HO,HB⟩:=hrel;have ag:Hid (Below w w wr):=B1.out.trans (HB.out.mono am);by_cases an:i<m
      ·obtain⟨gt,be,bh⟩:=HT.out wr (a0+i) ag.out mw;obtain⟨gl,bk,bc⟩:=HL.out wr (a0+i) ag.out mw;subst be bk;obtain⟨s1,s2,s3,s4,s5,s6⟩:=HS.out wr ag.out;have ho:=HO.out;obtain⟨gr,cX,bq,ax,_⟩:=ho.form mw;injection bq with q1 q2 q3;subst q1 q3;clear q2;have gk:=ic ((i:Int)<m);have b8:=ic (i<m);have b5:(0:Int)<=(i:Int):=mw;have b4:(i:Int)<(m:Int):=mw;have b7:IntKind.i64.wrap ((a0:Int)+(i:Int))=((a0+i:Nat):Int):=m8;have bN:(0:Int)<=((a0+i:Nat):Int):=mw;have b9:((a0+i:Nat):Int)<(nt:Int):=mw;have b1:((a0+i:Nat):Int)<(nl:Int):=mw;have av:i<(EY T L a0 R i).length:=(by rw[Zd,<-HM.out];exact an);have k0:wr.cell? ⟨gr,i*4,none⟩=some (.int .u64 ((EY T L a0 R i).getD i FP).time):=(ho.cellAt (i*4) mw).trans (L4 _ i 0 av mw);have k1:wr.cell? ⟨gr,i*4+1,none⟩=some (.int .u8 ((EY T L a0 R i).getD i FP).level):=(ho.cellAt (i*4+1) mw).trans (L4 _ i 1 av mw);have f0:=ho.frozenAt (i*4);have f1:=ho.frozenAt (i*4+1);generalize ((EY T L a0 R i).getD i FP).time=z0 at k0;generalize ((EY T L a0 R i).getD i FP).level=z1 at k1;obtain⟨tv,ai⟩:=ii (T.getD (a0+i) 0);obtain⟨lv,ak⟩:=ii (L.getD (a0+i) 0);rw[<-ai]at bh;rw[<-ak]at bc;have bd:=hid ai;have bp:=hid ak;clear ho HT HL ai ak av;go_wp2_with fail;go_region;go_wp2_with fail;go_roundw
       case measure=>exact jo
       case rel=>go_light;refine⟨i+1,mw,jp,?_,((HB.out.setCell (p:=⟨gr,i*4,none⟩) ax _).setCell (p:=⟨gr,i*4+1,none⟩) ax _).drew⟩;rw[bd.out,bp.out,<-fG (by rw[<-HM.out];exact an)];exact(World.ownsRow.stored (World.ownsRow.stored HO.out (i*4) _).1 (i*4+1) _).1.drew
      ·obtain rfl:i=m:=by omega
       have gk:=ig ((i:Int)<i);clear HT HL HS an;go_wp2_with fail;go_ret2;have hz:EY T L a0 R i=Du T L a0 R:=(by rw[HM.out];exact ZA ..);refine⟨.slice A2 i c2,by rw[a6.out];rfl,?_,ag.out⟩;rw[a1.out,MU,<-HM.out,<-hz];exact kZ HO.out am
    ·have gm:((m:Int) != (cn:Int))=true:=nG;have ah:Hid (Fj C F k=2):=(by have h:=HE.out;rw[Aa oK,Ab (by have:=HM.out;omega)]at h;exact h);clear HE DF a5 HT HL Y M HS;go_wp2_with fail;go_ret2;exact Me ah.out ip B2.out
   ·have gr:(re != 0)=true:=pd;have ah:Hid (Fj C F k=re):=(by have h:=HE.out;rw[Ab U]at h;exact h);have au:=hid U;clear HE DF U HT HL Y M HS;go_wp2_with fail;go_ret2;exact Me ah.out au.out B2.out
 ·have hE:=E.out;rw[Ab j]at hE;have HE:=hid hE;have au:=hid j;have gE:(opE f != 0)=true:=by simpa using j
  generalize opE f=oe at *;generalize opA f=oa at *;clear E hE G N D1 DF j HT HL Y M HS;go_wp2_with fail;go_ret2;exact Me HE.out au.out B1.out
end Body
end Go.Proofs.YtfgdoknipbpfhaaGreatDoor
