/- The walk of the refe -/
import Derived.Test.YtfgdoknipbpfhaaGreatDoorZTwoUnpacks22
import Derived.Test.YtfgdoknipbpfhaaGreatDoorZTwoUnpacks30
namespace Go.Proofs.YtfgdoknipbpfhaaGreatDoor
open Go.Proofs.Tryz
open Go.Lib (hid)
variable{w w':World}{er:Int}
namespace Idx
open Go.RowKit Mem Own Canon Sift
open NumPut Recs Crc Block
open Nums
def MD(w:World)(R:List Str×Nat×Int)(e:Ending)(w':World):Prop:=
 ∃v,e= .returned (.tuple #[v, .int .i64 (R.2.1:Nat),R.2.2])/\w'.ownsRow w 9 1 v R.1.length (AD R.1)/\aO w w'
theorem EQ{R:List Str×Nat×Int}(hR:R=([],0,er))(hb:aO w w'):MD w R (.returned (.tuple #[(),iT,er])) w':=by subst hR;exact⟨_,rfl,Aq _ _ _ _,hb⟩
theorem PY{g base c at_:Nat}{i:List Nat}{A:Option Addr}{K:Nat->Prop}(h:RCur w g base i A c at_ er)(hk:Kept K w w')(hg:K g)(hK:∀x,(Value.slice A i.length c).ownBlock=some x->K x):RCur w' g base i A c at_ er:=
 ⟨(hk.block g hg).trans h.blk,dZ h.own (fun x hx=>hk.block x (hK x hx)),h.le,h.lo⟩
theorem Wb{ls:List Nat}(h8:∀x∈ls,x<=255)(a:Nat)(er:Int)(k:Nat):∀x∈AZ ls a er k,x<=255:=fun x hx=>by
 unfold AZ at hx;split at hx
 ·cases hx
 ·split at hx
  ·cases hx
  ·exact h8 x (Be (BZ hx))
theorem U2(ls:List Nat)(a:Nat)(er:Int)(k:Nat):(AZ ls a er k).length<=ls.length:=by
 unfold AZ;split
 ·exact Ba _
 ·split
  ·exact Ba _
  ·rw[AN,AK];omega
theorem XX(t:Str):(({data:=#[] }:ByteArray))++bs t=bs t:=MP [] t
set_option maxHeartbeats 4000000 in
set_option maxRecDepth 100000 in
theorem Yz(w:World)(A:Option Addr)(m c size:Nat)(ls:List Nat)(hm:ls.length=m)(dp:m<=100000)(h8:∀x∈ls,x<=255)(cm:A=none->m=0/\c=0)(ha:Row w w A m 1 (jZ .u8 ls))(eb:1<=size)(el:size<=64):
 Calls prog 272 #[.int .i64 (size:Nat), .slice A m c] w (MD w (Ee size ls)):=by
 obtain⟨j0,dq,df,dm,ds⟩:=info_parts RI;obtain⟨j1,cO,cM,cD,ct⟩:=info_parts RX;have D0:=hid (rnew_any w A m c ls hm dp cm ha);have bE:ls.length<=100000:=kR
 have cA:=hid bE;have H8:=hid h8;have D1:=hid (fun wx g B d h=>Gm wx g w ls B d 0 0 1048576 bE h8 kR h);have ef:=iR ((size:Int)<1)
 have d0:=iR (size<1)
 have ek:=iR ((64:Int)<size)
 have d3:=iR (64<size)
 obtain⟨R,hR⟩:=iS (Ee size ls);rw[<-hR];unfold Ee at hR;obtain⟨Z,hZ⟩:=iS (FO size ls);rw[<-hZ]at hR;unfold FO at hZ;have es:zZ 1048576 ls 0 0<=1048576:=CI h8 0 0;generalize zZ 1048576 ls 0 0=n at *;generalize nZ 1048576 ls 0 0=a0 at *;generalize oZ 1048576 ls 0 0=e0 at *;have HR:=hid hR;have HZ:=hid hZ;clear hm h8 cm ha hR hZ dp bE;go_enter func272,ntmps272;go_wp2_with fail;refine D0.out.mono ?_;rintro e w1 ⟨g,B,d,rfl,bU,cH⟩;have DI:=hid (D1.out w1 g B d bU);have cX:=hid cH;have d8:=bU.lo;have en:=bU.blk.lt;have eg:=cH.size;have b7:Hid (∀y,(Value.slice B ls.length d).ownBlock=some y->y<w1.heap.size):=fun y hy=>(Ae bU.own y hy).2;clear bU cH D0 D1;go_wp2_with fail;refine DI.out.mono ?_;rintro e w2 ⟨rfl,cE,b5⟩;have bY:Hid (aO w w2):=cX.out.trans (b5.below fun b h=>⟨kR,kR⟩);have z2:=b5.size;have cC:=hid cE;have pe:=cE.cells.2.2;clear cE b5 cX DI;by_cases bQ:e0=0
 ·subst bQ;have hz:=HZ.out;rw[Aa (show ¬((0:Int)≠0) from fun h=>h rfl)]at hz;have c2:Hid (∃f,n<=f+0/\szR n size ls f a0 0 []=Z):=⟨n,kR,hz.symm⟩;clear hz HZ;go_wp2_with fail;go_loopw [9,10] (fun v xv wr=>∃ (x at_ q:Nat) (Q:List Nat),x<=n+64/\q<=x/\xv= .int .i64 x/\Hid (Q.length=q)/\Hid (q*size=x)/\Hid (0<q->x<n+size)/\Hid (∀y∈Q,y<=2000)/\Hid (RCur wr g w ls B d at_ 0)/\Hid (wr.ownsRow w2 3 1 v q (cZ .i64 Q))/\Hid (Kept (fun y=>y<w2.heap.size/\y≠g) w2 wr)/\Hid (∃f,n<=f+x/\szR n size ls f at_ x Q=Z)) (fun _ xv _=>n+64-(intOf xv).toNat)
  case atStart=>exact⟨0,a0,0,[],kR,kR,rfl,rfl,mM,fun h=>kR,fun y hy=>by simp at hy,cC.out,Aq _ _ _ _,Kept.refl _ _,c2.out⟩
  case round=>
   obtain⟨x,at_,q,Q,hx,eh,rfl,HQ,cf,dh,HA,HC,HO,HK,HT⟩:=hrel;have zk:=HK.out.size;obtain⟨va,vc,rfl⟩:=aZ HO.out;clear c2 cC pe;by_cases am:x<n
   ·have g1:=iQ ((x:Int)<n);have dV:=iQ (x<n);obtain⟨f,hf,hT⟩:=HT.out;obtain⟨f,rfl⟩:∃f',f=f'+1:=⟨f-1,kR⟩;rw[szR,Aa kR]at hT;have D:=hid (fun wx hx=>Gm wx g w ls B d at_ 0 2000 cA.out H8.out kR hx);have b5:zZ 2000 ls at_ 0<=2000:=CI H8.out _ _;generalize zZ 2000 ls at_ 0=k at *;generalize nZ 2000 ls at_ 0=a2 at *;generalize oZ 2000 ls at_ 0=e2 at *;have sx:IntKind.i64.wrap ((x:Int)+(size:Int))=((x+size:Nat):Int):=lD;have aU:Hid ((e2=0->∃f',n<=f'+(x+size)/\szR n size ls f' a2 (x+size) (Q++ [k])=Z)/\(e2≠0->Z.2.2=e2)):=⟨fun h=>⟨f,kR,by rw[Aa nm]at hT;exact hT⟩,fun h=>by rw[Ab h]at hT;rw[<-hT]⟩
    have dX:Hid (∀y∈Q++ [k],y<=2000):=fun y hy=>by
     rcases BN.1 hy with h|h
     ·exact HA.out y h
     ·rw[Dw]at h;omega
    have cT:Hid ((q+1)*size=x+size):=(by show _=_;rw[FJ,cf.out]);clear hT HT hf HA cf dh;go_wp2_with fail;refine(D.out _ HC.out).mono ?_;rintro e w4 ⟨rfl,bp,ac⟩;have z4:=ac.size;have bc:=hid bp;have an:Hid (w4.ownsRow w2 3 1 (.slice va q vc) q (cZ .i64 Q)):=dZ HO.out (fun y hy=>ac.block y ⟨(Ae HO.out y hy).2,jV⟩);have aP:Hid (Kept (fun y=>y<w2.heap.size/\y≠g) w2 w4):=HK.out.trans ⟨ac.os,ac.tape,ac.output,ac.size,fun y hy=>ac.block y ⟨ku,hy.2⟩⟩;clear bp ac HC HO HK D;by_cases he:e2=0
    ·subst he;have dS:=hid (aU.out.1 rfl);clear aU;go_wp2_with(at_builtin;refine gZ rfl (.tmp 45) (.tmp 48) 37 rfl w2 3 j0 _ 1 8 underlying37 dq df dm ds rfl iX _ _ _ kU (an.out.alloc _) _ 1 1 [.int .i64 (k:Nat)] kU (Src.of_blk (Blk.made_at _ _ _ mY) 1 1 1 rfl) kw nI kR ni ?_;intro v5 w5 af bh bJ;obtain⟨A5,c5,rfl⟩:=aZ af;have aw:=KB (bc.out.step (bZ (o:= .cells #[.int .i64 (k:Nat)] 3) (Ag w4 w4))) bh w2 kR (fun y hy=>by have:=b7.out y hy;omega) (fun(y:Nat) hy=>(Ae an.out y hy).1);have bC:=hid aw;have dw:=aw.cells.2.2;clear aw);have ah:=fun(y:Nat) hy=>(Ae an.out y hy).1;have dB:=aP.out.size;have bd:Hid (Kept (fun y=>y<w2.heap.size/\y≠g) w2 w5):=(aP.out.alloc (fun y hy=>by have:=hy.1;omega) _).grown bh (fun y hy=>by have:=hy.1;simp;omega) (fun y hy hh=>by have:=ah y hy;have:=hh.1;omega);have aS:Hid (w5.ownsRow w2 3 1 (.slice A5 (q+1) c5) (q+1) (cZ .i64 (Q++ [k]))):=mD;clear af bh bJ ah bc an aP;go_roundw
     case measure=>exact jw
     case rel=>go_light;exact⟨x+size,a2,q+1,Q++ [k],kR,kR,i5,by show _=_;rw[Aj,HQ.out];rfl,cT.out,fun _=>kR,dX.out,bC.out,aS.out,bd.out,dS.out⟩
    ·have gE:(e2 != 0)=true:=nB;have E:Hid (R=([],0,e2)):=(by have h:=HR.out;rw[aU.out.2 he,Ab he]at h;exact h);clear he aU;go_wp2_with(at_builtin;refine gZ rfl (.tmp 45) (.tmp 48) 37 rfl w2 3 j0 _ 1 8 underlying37 dq df dm ds rfl iX _ _ _ kU (an.out.alloc _) _ 1 1 [.int .i64 (k:Nat)] kU (Src.of_blk (Blk.made_at _ _ _ mY) 1 1 1 rfl) kw nI kR ni ?_;intro v5 w5 af bh bJ;obtain⟨A5,c5,rfl⟩:=aZ af;have aw:=KB (bc.out.step (bZ (o:= .cells #[.int .i64 (k:Nat)] 3) (Ag w4 w4))) bh w2 kR (fun y hy=>by have:=b7.out y hy;omega) (fun(y:Nat) hy=>(Ae an.out y hy).1);have bC:=hid aw;have dw:=aw.cells.2.2;clear aw);have ah:=fun(y:Nat) hy=>(Ae an.out y hy).1;have dB:=aP.out.size;have bd:Hid (Kept (fun y=>y<w2.heap.size/\y≠g) w2 w5):=(aP.out.alloc (fun y hy=>by have:=hy.1;omega) _).grown bh (fun y hy=>by have:=hy.1;simp;omega) (fun y hy hh=>by have:=ah y hy;have:=hh.1;omega);have aS:Hid (w5.ownsRow w2 3 1 (.slice A5 (q+1) c5) (q+1) (cZ .i64 (Q++ [k]))):=mD;clear af bh bJ ah bc an aP;have L:Hid (aO w w5):=bY.out.trans (bd.out.below fun b h=>⟨kR,kR⟩);clear bC aS bd;go_quiet (fail);go_wp2_with fail
     go_ret3
     exact EQ E.out (below_drewN L.out _)
   ·have g1:=iR ((x:Int)<n);have dV:=iR (x<n);have dl:Hid (R=bkR size ls (Q.drop 0) (n-0) at_ []):=(by obtain⟨f,_,h2⟩:=HT.out;rw[Ra kR]at h2;have hr:=HR.out;rw[<-h2]at hr;rw[Aa (show ¬((0:Int)≠0) from fun h=>h rfl)]at hr;exact hr);clear HT HR;obtain⟨w3,rfl⟩:=iS wr;have dd:Hid (aO w w3):=bY.out.trans (HK.out.below fun b h=>⟨kR,kR⟩);have c8:Hid (∀y,(Value.slice va q vc).ownBlock=some y->w2.heap.size<=y/\y<w3.heap.size):=fun y hy=>Ae HO.out y hy;clear HK bY;go_wp2_with fail;go_loopw [11,12] (fun ov iv wr=>∃ (i y aQ p:Nat) (ts:List Str),i<=q/\iv= .int .i64 i/\Hid (y=i*size)/\Hid (ts.length=p)/\Hid (p<=n)/\Hid (i<q->p=y)/\Hid (∀s∈ts,s.length<=25)/\Hid (RCur wr g w ls B d aQ 0)/\Hid (wr.ownsRow w3 9 1 ov p (AD ts))/\Hid (Kept (fun z=>z<w3.heap.size/\z≠g) w3 wr)/\Hid (R=bkR size ls (Q.drop i) (n-y) aQ ts)) (fun _ iv _=>q-(intOf iv).toNat)
    case atStart=>exact⟨0,0,at_,0,[],kR,rfl,mM,rfl,Ba _,fun _=>rfl,fun s hs=>by simp at hs,HC.out,Aq _ _ _ _,Kept.refl _ _,dl.out⟩
    case round=>
     obtain⟨i,y,aQ,p0,ts,hi,rfl,HY,dk,cU,dv,dA,b0,be,bm,HT⟩:=hrel;obtain⟨Ao,co,rfl⟩:=aZ be.out;clear dl HC;have zr:=bm.out.size;by_cases dg:i<q
     ·have gi:=iQ ((i:Int)<q);have ev:=iQ (i<q);obtain rfl:p0=y:=dv.out dg;have ep:p0+size<=x:=(by have h1:(i+1)*size<=q*size:=Fk size dg;rw[FJ,cf.out,<-HY.out]at h1;exact h1);have ei:=dh.out kR;have d6:=cU.out;obtain⟨k0,ce⟩:∃k,Q[i]? =some k:=⟨_,AE kj⟩;have dY:=HA.out k0 (BP ce);have bN:Q.drop i=k0 :: Q.drop (i+1):=(by obtain⟨hl,e⟩:=Ch.1 ce;rw[CU hl,e]);have cI:Hid (wr.ownsRow w2 3 1 (.slice va q vc) q (cZ .i64 Q)):=dZ HO.out (fun z hz=>bm.out.block z ⟨(c8.out z hz).2,by have:=(c8.out z hz).1;omega⟩);obtain⟨gv,cv,dK,ea,_⟩:=cI.out.form kR;injection dK with q1 q2 q3;subst q1 q3;clear q2;have ck:wr.cell? ⟨gv,i,none⟩=some (.int .i64 (k0:Nat)):=(by rw[cI.out.cellAt i kR];unfold cZ;rw[B0,ce];rfl);have ed:(0:Int)<=(i:Int):=kR;have ec:(i:Int)<(q:Int):=kR;have DT:=Ib wr g w ls B d aQ 0 k0 cA.out kR b0.out;unfold IY at DT;have hT:=HT.out;rw[bN,bkR]at hT;have dJ:=U2 ls aQ 0 k0;have cQ:=Wb H8.out aQ 0 k0;generalize AZ ls aQ 0 k0=part at *;generalize takeA ls aQ 0 k0=bl at *;generalize Bh ls aQ 0 k0=e4 at *;have DT:=hid DT;have aU:=hid hT;have ca:=hid cQ;have ch:part.length<=100000:=(by have:=cA.out;omega);clear hT HT ce bN cQ dJ cI;obtain⟨c3,rfl⟩:=iS wr;obtain⟨pm,cB⟩:=iS part.length;rw[<-cB]at DT ch;have bA:=hid cB;clear cB;go_wp2_with fail;refine DT.out.mono ?_;rintro e w4 ⟨v4,rfl,bi,bp,ac⟩;obtain⟨A4,c4,rfl⟩:=aZ bi;have z4:=ac.size;have bc:=hid bp;have dt:=bp.cells.2.2;have an:Hid (w4.ownsRow w3 9 1 (.slice Ao p0 co) p0 (AD ts)):=dZ be.out (fun z hz=>ac.block z ⟨(Ae be.out z hz).2,by have:=(Ae be.out z hz).1;omega⟩);have aP:Hid (Kept (fun z=>z<w3.heap.size/\z≠g) w3 w4):=bm.out.trans ⟨ac.os,ac.tape,ac.output,ac.size,fun z hz=>ac.block z ⟨by have:=hz.1;omega,hz.2⟩⟩;have L:Hid (aO w w4):=dd.out.trans (aP.out.below fun b h=>⟨kR,kR⟩);have cc:=hid bi;clear bi bp ac b0 be bm DT ck;by_cases b8:e4=0
      ·subst b8;have hT:=aU.out;rw[Aa (show ¬((0:Int)≠0) from fun h=>h rfl)]at hT;obtain⟨mn,cp⟩:=iS (min size (n-p0));rw[<-cp]at hT;obtain⟨F,hF⟩:=iS (Cp part mn true 0 ts);rw[<-hF]at hT;have ak:Hid (∀er:Int,F=([],er)->er≠0->R=([],0,er)):=fun er h he=>by rw[hT,h,Ab he]
       have bk:Hid (∀er:Int,F.2=er->er≠0->R=([],0,er)):=fun er h he=>by rw[hT,h,Ab he]
       have b9:Hid (F.2=0->R=bkR size ls (Q.drop (i+1)) (n-p0-size) bl F.1):=fun h=>by rw[hT,Aa (fun h2=>h2 h)]
       have HF:=hid hF;have bM:=hid cp;have cP:Hid (i+1<q->p0+size<n):=fun h=>by have h1:(i+2)*size<=q*size:=Fk size h;rw[Fc,cf.out,<-HY.out]at h1;omega
       have d7:mn<=size:=kR;have d2:mn<=n-p0:=kR;have aS:Hid (Row w4 w4 A4 pm 1 (jZ .u8 part)):=(by have h:=cc.out;rw[bA.out]at h;have h2:=own_row h;rw[<-bA.out]at h2;exact h2);have DN:=hid (rnew_any w4 A4 pm c4 part bA.out.symm ch (G7 cc.out) aS.out);clear hT aU hF cc aS cp;go_wp2_with fail;refine DN.out.mono ?_;rintro e w5 ⟨g5,B5,d5,rfl,aw,bt⟩;have z5:=bt.size;have dG:=aw.lo;have bC:=hid aw;have aS:Hid (w5.ownsRow w3 9 1 (.slice Ao p0 co) p0 (AD ts)):=dZ an.out (fun z hz=>bt.block z (Ae an.out z hz).2);have bd:Hid (Kept (fun z=>z<w3.heap.size/\z≠g) w3 w5):=aP.out.trans (Kept.of_below bt (fun z hz=>by have:=hz.1;omega));have c0:Hid (RCur w5 g w ls B d bl 0):=bc.out.step bt;obtain⟨w6,rfl⟩:=iS w5;have bq:Hid (aO w w6):=L.out.trans (bt.mono (by have:=L.out.size;omega));clear aw bt DN bc an aP L dt;go_wp2_with fail;go_loopw [11,15] (fun ov kv wr=>∃ (k aa p:Nat) (t2:List Str),k<=mn/\p=p0+k/\kv= .int .i64 k/\Hid (t2.length=p)/\Hid (RCur wr g5 w4 part B5 d5 aa 0)/\Hid (wr.ownsRow w3 9 1 ov p (AD t2))/\Hid (Kept (fun z=>z<w3.heap.size) w6 wr)/\Hid (∀s∈t2,s.length<=25)/\Hid (Cp part (mn-k) (decide (k=0)) aa t2=F)) (fun _ kv _=>mn-(intOf kv).toNat)
       case atStart=>exact⟨0,0,p0,ts,kR,kR,rfl,dk.out,bC.out,aS.out,Kept.refl _ _,dA.out,HF.out.symm⟩
       case round=>
        obtain⟨k,aa,p,t2,hk,dF,rfl,HP,au,ag,ay,bu,HG⟩:=hrel;have d9:p<=p0+k:=kR;have d4:p0+k<=p:=kR;clear dF;obtain⟨Au,cu,rfl⟩:=aZ ag.out;clear bC aS HF;have z7:=ay.out.size;by_cases eo:k<mn
        ·have gk:=iQ ((k:Int)<size);have cW:=iQ (k<size);have gp:=iQ ((p:Int)<n);have dL:=iQ (p<n);have hG:=HG.out;rw[show mn-k=(mn-(k+1))+1 by omega,Cp]at hG;obtain⟨fb,cr⟩:∃fb,fb=decide (k=0):=⟨_,rfl⟩;obtain⟨j,bj⟩:=iS (t2.getLast?.getD [])
         have ew:j.length<=25:=by
          rw[bj];cases hl:t2.getLast? with
          |none=>exact Ba _
          |some y=>exact bu.out y (List.mem_of_getLast? hl)
         rw[<-cr,<-bj]at hG;unfold EV at hG;have bO:=hid (fun wx hx=>Gm wx g5 w4 part B5 d5 aa 0 j.length (by have:=bA.out;omega) ca.out kR hx)
         have cw:nxN part j fb aa<=j.length:=by
          unfold nxN;split
          ·exact Ba _
          ·exact CI ca.out _ _
         have HN:Hid ((fb=true->nxN part j fb aa=0/\nxA part j fb aa=aa/\nxE part j fb aa=0)/\(fb=false->nxN part j fb aa=zZ j.length part aa 0/\nxA part j fb aa=nZ j.length part aa 0/\nxE part j fb aa=oZ j.length part aa 0)):=by
          constructor
          ·intro hf;rw[hf];exact⟨rfl,rfl,rfl⟩
          ·intro hf;rw[hf];exact⟨rfl,rfl,rfl⟩
         generalize nxN part j fb aa=mm at *;generalize nxA part j fb aa=a1 at *;generalize nxE part j fb aa=e1 at *;have bF:=hid (fun wx hx=>MS wx g5 w4 part B5 d5 a1 e1 25 (by have:=bA.out;omega) ca.out kR hx);have cV:=Pq (most:=25) ca.out a1 e1;rw[OH]at bF;obtain⟨t,ht⟩:=iS (toS (Di 25 part a1 e1));have dC:t.length<=25:=(by rw[ht];unfold toS;rw[Cg];exact cV);rw[<-ht]at bF hG;generalize CL 25 part a1 e1=a2 at *;generalize CK 25 part a1 e1=e2 at *;obtain⟨s,hs⟩:=iS (j.take mm++t);unfold nxS at hG;rw[<-hs]at hG;have G:=hid hG;have HS:=hid hs;have dy:(j.take mm).length<=25:=ln;have dz:s.length<=50:=(by rw[hs,Aj];omega);have cF:Hid (bs (j.take mm)++bs t=bs s):=(by show _=_;rw[MP,hs]);have HT:Hid ((t= []->((bs t).toList==({data:=#[] }:ByteArray).toList)=true/\((bs t).toList== [])=true/\(bs t).toList.isEmpty=true/\(bs t).toList= [])/\(t≠ []->((bs t).toList==({data:=#[] }:ByteArray).toList)=false/\((bs t).toList== [])=false/\(bs t).toList.isEmpty=false/\¬(bs t).toList= [])):=⟨fun h=>by rw[h];exact M7,fun h=>N7 t h⟩;have zt:=CO t;have zs:=CO s;have zw:=CO j;obtain⟨sl,bG⟩:=iS s.length;obtain⟨tl,cj⟩:=iS t.length;have KH:=fun wx=>Ny j mm cw wx;have b6:Hid (mm=0->j.take mm= []):=fun h=>by rw[h];rfl
         have bD:=hid (fun wx=>T7 wx j s kR kR);have zh:=CO (j.take mm);generalize j.take mm=hd at *;obtain⟨hl,dn⟩:=iS hd.length;obtain⟨wl,bX⟩:=iS j.length;rw[<-bG]at zs dz;rw[<-cj]at zt dC;rw[<-dn]at zh dy;have aR:=hid bG;have ci:=hid bj;have cG:=hid cr;clear hG HG hs cV ht cr bj bG cj dn;have d1:Hid (aO w wr):=bq.out.trans (ay.out.below fun b h=>by omega);by_cases cL:p=0
         ·have ar:k=0:=kR;have dH:=iR ((0:Int)<p);have di:=iR (0<p);have da:=iR ((0:Int)<k);have cl:=iR (0<k);have dR:Hid (j= []):=(by show _=_;rw[ci.out,FK (HP.out.trans cL)];rfl);have aV:Hid (fb=true):=(by show _=_;rw[cG.out,Aw ar]);obtain⟨q1,q2,q3⟩:=HN.out.1 aV.out;have dc:=b6.out q1;have dI:∀wx,(Instr.slice 9 (.string ⟨#[]⟩) none (some (.int .i64 0)) none).run prog wx= .ok (.string ⟨#[]⟩) wx:=fun wx=>Ny [] 0 (Ba _) wx;have dr:s=t:=(by rw[HS.out,dc];rfl);have cY:bs t=bs s:=(by rw[dr]);have ej:(({data:=#[] }:ByteArray))++bs t=bs s:=(by rw[XX,cY]);have az:Hid (RCur wr g5 w4 part B5 d5 a1 e1):=(by rw[q2,q3];exact au.out);have ax:=ay;have ai:=ag;clear cL ar q1 q2 q3 HN dc KH cF b6 bO dr cY zh bD zw au ay ag cw;have zx:=ax.out.size;go_wp2_with fail;refine(bF.out _ az.out).mono ?_;rintro e w8 ⟨rfl,a7,N⟩;have z8:=N.size;have J:=hid a7;have ae:Hid (Kept (fun z=>z<w3.heap.size) w6 w8):=ax.out.trans ⟨N.os,N.tape,N.output,N.size,fun z hz=>N.block z ⟨kR,kR⟩⟩;have U:=hid (dZ (w':=w8) ai.out (fun z hz=>N.block z ⟨(Ae ai.out z hz).2,fun e=>fZ ai.out az.out.blk iX (e ▸ hz)⟩));have L:Hid (aO w w8):=bq.out.trans (ae.out.below fun b h=>by omega);have px:=J.out.cells.2.2;clear a7 N az ax ai;by_cases he:e2=0
          ·skip
           subst he;by_cases ht:t= []
           ·obtain⟨b1,b2,b3,b4⟩:=HT.out.1 ht;have M:Hid (t= []∨BH j s=false∨(fb=false/\Bz j s≠mm)):= .inl ht;clear ht HT;have E:Hid (R=([],0,2)):=jB;clear G M;go_wp2_with fail
            go_ret3
            exact EQ E.out L.out
           ·obtain⟨b1,b2,b3,b4⟩:=HT.out.2 ht;have a3:=hid ht;clear ht HT;by_cases aq:25<sl
            ·have bS:=iQ ((25:Int)<sl);have a4:=iQ (25<sl);have M:Hid (t= []∨BH j s=false∨(fb=false/\Bz j s≠mm)):= .inr (.inl nG);clear aq;have E:Hid (R=([],0,2)):=jB;clear G M;go_wp2_with fail
             go_ret3
             exact EQ E.out L.out
            ·have bS:=iR ((25:Int)<sl);have a4:=iR (25<sl);have aY:Hid (s.length<=25):=mH;have bn:Hid (1<=s.length):=mG;clear aq
             have a6:Hid (¬(t= []∨BH j s=false∨(fb=false/\Bz j s≠mm))):=fun h=>by
              rcases h with h|h|h
              ·exact a3.out h
              ·have h1:s≠ []:=fun h=>by have:=bn.out;rw[h]at this;simp at this
               have h2:BH j s=true:=by
                unfold BH;rw[Aw aY.out,Aw bn.out,dR.out];cases s with
                |nil=>exact absurd rfl h1
                |cons x xs=>simp
               rw[h2]at h;cases h
              ·exact absurd (aV.out.symm.trans h.1) iX
             have bW:Hid (Cp part (mn-(k+1)) (decide (k+1=0)) a2 (t2++ [s])=F):=mL;clear G a6;go_wp2_with(at_builtin;refine gZ rfl (.tmp 152) (.tmp 154) 50 rfl w3 9 j1 _ 1 16 underlying50 cO cM cD ct rfl iX _ _ _ kU (U.out.alloc _) _ 1 1 [.string (bs s)] kU (Src.of_blk (Blk.made_at _ _ _ mY) 1 1 1 rfl) kw nI kR ni ?_;intro v9 w9 Y aj ba;obtain⟨A9,c9,rfl⟩:=aZ Y);have ah:=fun(y:Nat) hy=>(Ae U.out y hy).1;have bb:RCur w9 g5 w4 part B5 d5 a2 0:=⟨(J.out.blk.alloc (.cells #[.string (bs s)] 9)).grown aj (Br (fZ (U.out.alloc (.cells #[.string (bs s)] 9)) (J.out.blk.alloc (.cells #[.string (bs s)] 9)) iX)),own_far (J.out.own.alloc (.cells #[.string (bs s)] 9)) (U.out.alloc (.cells #[.string (bs s)] 9)) iX aj,J.out.le,J.out.lo⟩;have bV:=hid bb;have ab:Hid (Kept (fun z=>z<w3.heap.size) w6 w9):=(ae.out.alloc (fun z hz=>by omega) _).grown aj (fun z hz=>by simp;omega) (fun z hz hh=>by have:=ah z hz;omega);have aT:Hid (w9.ownsRow w3 9 1 (.slice A9 (p+1) c9) (p+1) (AD (t2++ [s]))):=mB;clear Y aj ba ah bb J ae U;go_roundw
             case measure=>exact jw
             case rel=>exact jj
          ·have gE:(e2 != 0)=true:=nB;have E:Hid (R=([],0,e2)):=jC;clear he G;go_wp2_with fail;go_quiet (fail);go_wp2_with fail
           go_ret3
           exact EQ E.out (below_drewN L.out _)
         ·obtain⟨gq,cq,dM,eu,_⟩:=ag.out.form kR;injection dM with q1 q2 q3;subst q1 q3;clear q2;have c1:t2[p-1]? =some j:=(by have h:=ci.out;rw[List.getLast?_eq_getElem?,HP.out,AE ki]at h;rw[AE ki,h];rfl);have cy:wr.cell? ⟨gq,p-1,none⟩=some (.string (bs j)):=(by rw[ag.out.cellAt (p-1) kR];exact GM c1);obtain⟨p1,cS⟩:=iS (p-1);rw[<-cS]at cy;have sp:IntKind.i64.wrap ((p:Int)-1)=(p1:Int):=lD;have dH:=iQ ((0:Int)<p);have di:=iQ (0<p);have ee:(0:Int)<=(p1:Int):=kR;have et:(p1:Int)<(p:Int):=kR;have em:=cF.out;clear c1 cS cL cF;by_cases ar:k=0
          ·have da:=iR ((0:Int)<k);have cl:=iR (0<k);have aV:Hid (fb=true):=(by show _=_;rw[cG.out,Aw ar]);obtain⟨q1,q2,q3⟩:=HN.out.1 aV.out;have dI:∀wx,(Instr.slice 9 (.string (bs j)) none (some (.int .i64 0)) none).run prog wx= .ok (.string (bs hd)) wx:=(by have h:=KH;rw[q1]at h;exact h);have az:Hid (RCur wr g5 w4 part B5 d5 a1 e1):=(by rw[q2,q3];exact au.out);have ax:=ay;have ai:=ag;clear ar q1 q2 q3 HN KH b6 bO bD au ay ag cw;have zx:=ax.out.size;go_wp2_with fail;refine(bF.out _ az.out).mono ?_;rintro e w8 ⟨rfl,a7,N⟩;have z8:=N.size;have J:=hid a7;have ae:Hid (Kept (fun z=>z<w3.heap.size) w6 w8):=ax.out.trans ⟨N.os,N.tape,N.output,N.size,fun z hz=>N.block z ⟨kR,kR⟩⟩;have U:=hid (dZ (w':=w8) ai.out (fun z hz=>N.block z ⟨(Ae ai.out z hz).2,fun e=>fZ ai.out az.out.blk iX (e ▸ hz)⟩));have L:Hid (aO w w8):=bq.out.trans (ae.out.below fun b h=>by omega);have px:=J.out.cells.2.2;clear a7 N az ax ai;by_cases he:e2=0
           ·skip
            subst he;by_cases ht:t= []
            ·obtain⟨b1,b2,b3,b4⟩:=HT.out.1 ht;have M:Hid (t= []∨BH j s=false∨(fb=false/\Bz j s≠mm)):= .inl ht;clear ht HT;have E:Hid (R=([],0,2)):=jB;clear G M;go_wp2_with fail
             go_ret3
             exact EQ E.out L.out
            ·obtain⟨b1,b2,b3,b4⟩:=HT.out.2 ht;have a3:=hid ht;clear ht HT;by_cases aq:25<sl
             ·have bS:=iQ ((25:Int)<sl);have a4:=iQ (25<sl);have M:Hid (t= []∨BH j s=false∨(fb=false/\Bz j s≠mm)):= .inr (.inl nG);clear aq;have E:Hid (R=([],0,2)):=jB;clear G M;go_wp2_with fail
              go_ret3
              exact EQ E.out L.out
             ·have bS:=iR ((25:Int)<sl);have a4:=iR (25<sl);have aY:Hid (s.length<=25):=mH;have bn:Hid (1<=s.length):=mG;clear aq;have bR:=fun(P:Program) (tt:TypeId) wx=>O8 P tt s j wx;by_cases am:j<s
              ·have a6:Hid (¬(t= []∨BH j s=false∨(fb=false/\Bz j s≠mm))):=fun h=>by
                rcases h with h|h|h
                ·exact a3.out h
                ·have h2:BH j s=true:=(by unfold BH;rw[Aw aY.out,Aw bn.out,Aw am];rfl);rw[h2]at h;cases h
                ·exact absurd (aV.out.symm.trans h.1) iX
               simp only[decide_eq_true am,Bool.not_true]at bR;clear am;have bW:Hid (Cp part (mn-(k+1)) (decide (k+1=0)) a2 (t2++ [s])=F):=mL;clear G a6;go_wp2_with(at_builtin;refine gZ rfl (.tmp 152) (.tmp 154) 50 rfl w3 9 j1 _ 1 16 underlying50 cO cM cD ct rfl iX _ _ _ kU (U.out.alloc _) _ 1 1 [.string (bs s)] kU (Src.of_blk (Blk.made_at _ _ _ mY) 1 1 1 rfl) kw nI kR ni ?_;intro v9 w9 Y aj ba;obtain⟨A9,c9,rfl⟩:=aZ Y);have ah:=fun(y:Nat) hy=>(Ae U.out y hy).1;have bb:RCur w9 g5 w4 part B5 d5 a2 0:=⟨(J.out.blk.alloc (.cells #[.string (bs s)] 9)).grown aj (Br (fZ (U.out.alloc (.cells #[.string (bs s)] 9)) (J.out.blk.alloc (.cells #[.string (bs s)] 9)) iX)),own_far (J.out.own.alloc (.cells #[.string (bs s)] 9)) (U.out.alloc (.cells #[.string (bs s)] 9)) iX aj,J.out.le,J.out.lo⟩;have bV:=hid bb;have ab:Hid (Kept (fun z=>z<w3.heap.size) w6 w9):=(ae.out.alloc (fun z hz=>by omega) _).grown aj (fun z hz=>by simp;omega) (fun z hz hh=>by have:=ah z hz;omega);have aT:Hid (w9.ownsRow w3 9 1 (.slice A9 (p+1) c9) (p+1) (AD (t2++ [s]))):=mB;clear Y aj ba ah bb J ae U;go_roundw
               case measure=>exact jw
               case rel=>exact jj
              ·have M:Hid (t= []∨BH j s=false∨(fb=false/\Bz j s≠mm)):= .inr (.inl (by unfold BH;rw[Az am];simp));simp only[decide_eq_false am,Bool.not_false]at bR;clear am;have E:Hid (R=([],0,2)):=jB;clear G M;go_wp2_with fail
               go_ret3
               exact EQ E.out L.out
           ·have gE:(e2 != 0)=true:=nB;have E:Hid (R=([],0,e2)):=jC;clear he G;go_wp2_with fail;go_quiet (fail);go_wp2_with fail
            go_ret3
            exact EQ E.out (below_drewN L.out _)
          ·have da:=iQ ((0:Int)<k);have cl:=iQ (0<k);have aV:Hid (fb=false):=(by show _=_;rw[cG.out,Az ar]);obtain⟨q1,q2,q3⟩:=HN.out.2 aV.out;rw[<-q1,<-q2,<-q3,<-bX]at bO;have dN:=zw;rw[<-bX]at dN;clear ar HN b6 zw bX q1 q2 q3;go_wp2_with fail;refine(bO.out _ au.out).mono ?_;rintro e w7 ⟨rfl,cR,bf⟩;have az:=hid cR;have ax:Hid (Kept (fun z=>z<w3.heap.size) w6 w7):=ay.out.trans ⟨bf.os,bf.tape,bf.output,bf.size,fun z hz=>bf.block z ⟨kR,kR⟩⟩;have ai:=hid (dZ (w':=w7) ag.out (fun z hz=>bf.block z ⟨(Ae ag.out z hz).2,fun e=>fZ ag.out au.out.blk iX (e ▸ hz)⟩));clear cR bf au ay ag bO cy;have zx:=ax.out.size;go_wp2_with fail;refine(bF.out _ az.out).mono ?_;rintro e w8 ⟨rfl,a7,N⟩;have z8:=N.size;have J:=hid a7;have ae:Hid (Kept (fun z=>z<w3.heap.size) w6 w8):=ax.out.trans ⟨N.os,N.tape,N.output,N.size,fun z hz=>N.block z ⟨kR,kR⟩⟩;have U:=hid (dZ (w':=w8) ai.out (fun z hz=>N.block z ⟨(Ae ai.out z hz).2,fun e=>fZ ai.out az.out.blk iX (e ▸ hz)⟩));have L:Hid (aO w w8):=bq.out.trans (ae.out.below fun b h=>by omega);have px:=J.out.cells.2.2;clear a7 N az ax ai;by_cases he:e2=0
           ·skip
            subst he;by_cases ht:t= []
            ·obtain⟨b1,b2,b3,b4⟩:=HT.out.1 ht;have M:Hid (t= []∨BH j s=false∨(fb=false/\Bz j s≠mm)):= .inl ht;clear ht HT;have E:Hid (R=([],0,2)):=jB;clear G M;go_wp2_with fail
             go_ret3
             exact EQ E.out L.out
            ·obtain⟨b1,b2,b3,b4⟩:=HT.out.2 ht;have a3:=hid ht;clear ht HT;by_cases aq:25<sl
             ·have bS:=iQ ((25:Int)<sl);have a4:=iQ (25<sl);have M:Hid (t= []∨BH j s=false∨(fb=false/\Bz j s≠mm)):= .inr (.inl nG);clear aq;have E:Hid (R=([],0,2)):=jB;clear G M;go_wp2_with fail
              go_ret3
              exact EQ E.out L.out
             ·have bS:=iR ((25:Int)<sl);have a4:=iR (25<sl);have aY:Hid (s.length<=25):=mH;have bn:Hid (1<=s.length):=mG;clear aq;have bR:=fun(P:Program) (tt:TypeId) wx=>O8 P tt s j wx;by_cases am:j<s
              ·have du:=hid am;simp only[decide_eq_true am,Bool.not_true]at bR;clear am;obtain⟨al,bK⟩:=iS (Bz j s);have bT:=bD;rw[<-bK]at bT;have de:=hid bK;clear bK;by_cases bL:al=mm
               ·have dU:((al:Int) != (mm:Int))=false:=by rw[bL];simp
                have a6:Hid (¬(t= []∨BH j s=false∨(fb=false/\Bz j s≠mm))):=fun h=>by
                 rcases h with h|h|h
                 ·exact a3.out h
                 ·have h2:BH j s=true:=(by unfold BH;rw[Aw aY.out,Aw bn.out,Aw du.out];rfl);rw[h2]at h;cases h
                 ·exact h.2 (de.out.symm.trans bL)
                clear bL bD;go_wp2_with fail;refine(bT.out _).mono ?_;rintro e dx ⟨rfl,q8,rfl⟩;have aW:=hid (J.out.drewN q8);have a8:=hid (ae.out.drewN q8);have a5:=hid (dZ (w':=w8.drewN q8) U.out (fun y _=>rfl));have a9:=hid (below_drewN L.out q8);have dD:w8.heap.size<=(w8.drewN q8).heap.size:=Ai _;clear J ae U L bT;generalize w8.drewN q8=dW at *;have J:=aW;have ae:=a8;have U:=a5;have L:=a9;clear aW a8 a5 a9;have bW:Hid (Cp part (mn-(k+1)) (decide (k+1=0)) a2 (t2++ [s])=F):=mL;clear G a6;go_wp2_with(at_builtin;refine gZ rfl (.tmp 152) (.tmp 154) 50 rfl w3 9 j1 _ 1 16 underlying50 cO cM cD ct rfl iX _ _ _ kU (U.out.alloc _) _ 1 1 [.string (bs s)] kU (Src.of_blk (Blk.made_at _ _ _ mY) 1 1 1 rfl) kw nI kR ni ?_;intro v9 w9 Y aj ba;obtain⟨A9,c9,rfl⟩:=aZ Y);have ah:=fun(y:Nat) hy=>(Ae U.out y hy).1;have bb:RCur w9 g5 w4 part B5 d5 a2 0:=⟨(J.out.blk.alloc (.cells #[.string (bs s)] 9)).grown aj (Br (fZ (U.out.alloc (.cells #[.string (bs s)] 9)) (J.out.blk.alloc (.cells #[.string (bs s)] 9)) iX)),own_far (J.out.own.alloc (.cells #[.string (bs s)] 9)) (U.out.alloc (.cells #[.string (bs s)] 9)) iX aj,J.out.le,J.out.lo⟩;have bV:=hid bb;have ab:Hid (Kept (fun z=>z<w3.heap.size) w6 w9):=(ae.out.alloc (fun z hz=>by omega) _).grown aj (fun z hz=>by simp;omega) (fun z hz hh=>by have:=ah z hz;omega);have aT:Hid (w9.ownsRow w3 9 1 (.slice A9 (p+1) c9) (p+1) (AD (t2++ [s]))):=mB;clear Y aj ba ah bb J ae U;go_roundw
                case measure=>exact jw
                case rel=>exact jj
               ·have dU:((al:Int) != (mm:Int))=true:=l7;have M:Hid (t= []∨BH j s=false∨(fb=false/\Bz j s≠mm)):= .inr (.inr ⟨aV.out,fun h=>bL (de.out.trans h)⟩);clear bL bD;go_wp2_with fail;refine(bT.out _).mono ?_;rintro e dx ⟨rfl,q8,rfl⟩;have aW:=hid (J.out.drewN q8);have a8:=hid (ae.out.drewN q8);have a5:=hid (dZ (w':=w8.drewN q8) U.out (fun y _=>rfl));have a9:=hid (below_drewN L.out q8);have dD:w8.heap.size<=(w8.drewN q8).heap.size:=Ai _;clear J ae U L bT;generalize w8.drewN q8=dW at *;have J:=aW;have ae:=a8;have U:=a5;have L:=a9;clear aW a8 a5 a9;have E:Hid (R=([],0,2)):=jB;clear G M;go_wp2_with fail
                go_ret3
                exact EQ E.out L.out
              ·have M:Hid (t= []∨BH j s=false∨(fb=false/\Bz j s≠mm)):= .inr (.inl (by unfold BH;rw[Az am];simp));simp only[decide_eq_false am,Bool.not_false]at bR;clear am;have E:Hid (R=([],0,2)):=jB;clear G M;go_wp2_with fail
               go_ret3
               exact EQ E.out L.out
           ·have gE:(e2 != 0)=true:=nB;have E:Hid (R=([],0,e2)):=jC;clear he G;go_wp2_with fail;go_quiet (fail);go_wp2_with fail
            go_ret3
            exact EQ E.out (below_drewN L.out _)
        ·obtain rfl:k=mn:=by omega
         have hG:=HG.out;rw[Fj,Cp]at hG;have c7:=au.out.le;have cg:=bM.out;have dT:=cU.out;have DL:=hid (rleft_any wr g5 w4 part B5 d5 aa 0 (by have:=bA.out;omega) au.out);unfold Fb at hG;obtain⟨lf,dj⟩:=iS (part.length-aa);rw[<-dj]at DL;have aX:Hid ((0<lf->F.2=2)/\(lf=0->F=(t2,0))):=⟨fun h=>by rw[<-hG,Ab kR];rfl,fun h=>by rw[<-hG,Aa kR]⟩;have bB:=ay;have cd:=ag;clear hG HG c7 dj;by_cases c6:k<size
         ·have gk:=iQ ((k:Int)<size);have cW:=iQ (k<size);have gp:=iR ((p:Int)<n);have dL:=iR (p<n);clear c6 cg;go_wp2_with fail;refine DL.out.mono ?_;rintro e w9 ⟨rfl,q9,rfl⟩;have ab:=hid (bB.out.drewN q9);have aT:=hid (dZ (w':=wr.drewN q9) cd.out (fun y _=>rfl));have cN:Hid (aO w (wr.drewN q9)):=below_drewN (bq.out.trans (bB.out.below fun b h=>by omega)) _;have cz:=hid (PY c0.out ab.out kR (fun z hz=>by have:=b7.out z hz;omega));clear au ay ag bB cd DL;generalize wr.drewN q9=w9 at *;by_cases av:lf=0
          ·have gl:=iR ((0:Int)<lf);have cK:=iR (0<lf);have bg:=aX.out.2 av;have cJ:Hid (R=bkR size ls (Q.drop (i+1)) (n-(p0+size)) bl t2):=jN;have cx:Hid (p0+size=(i+1)*size):=(by show _=_;rw[FJ,<-HY.out]);have bH:Hid (i+1<q->p=p0+size):=fun h=>by have:=cP.out h;have:=bM.out;omega
           have bP:Hid (p<=n):=(by show _<=_;have:=bM.out;omega);have bI:Hid (Kept (fun z=>z<w3.heap.size/\z≠g) w3 w9):=bd.out.trans ⟨ab.out.os,ab.out.tape,ab.out.output,ab.out.size,fun z hz=>ab.out.block z hz.1⟩;clear bg av aX ak bk b9;go_wp2_with fail;go_roundw
           case measure=>exact jw
           case rel=>exact je
          ·have gl:=iQ ((0:Int)<lf);have cK:=iQ (0<lf);have E:Hid (R=([],0,2)):=bk.out 2 (aX.out.1 kR) iX;clear av aX;go_wp2_with fail
           go_ret3
           exact EQ E.out cN.out
         ·have gk:=iR ((k:Int)<size);have cW:=iR (k<size);clear c6 cg;go_wp2_with fail;refine DL.out.mono ?_;rintro e w9 ⟨rfl,q9,rfl⟩;have ab:=hid (bB.out.drewN q9);have aT:=hid (dZ (w':=wr.drewN q9) cd.out (fun y _=>rfl));have cN:Hid (aO w (wr.drewN q9)):=below_drewN (bq.out.trans (bB.out.below fun b h=>by omega)) _;have cz:=hid (PY c0.out ab.out kR (fun z hz=>by have:=b7.out z hz;omega));clear au ay ag bB cd DL;generalize wr.drewN q9=w9 at *;by_cases av:lf=0
          ·have gl:=iR ((0:Int)<lf);have cK:=iR (0<lf);have bg:=aX.out.2 av;have cJ:Hid (R=bkR size ls (Q.drop (i+1)) (n-(p0+size)) bl t2):=jN;have cx:Hid (p0+size=(i+1)*size):=(by show _=_;rw[FJ,<-HY.out]);have bH:Hid (i+1<q->p=p0+size):=fun h=>by have:=cP.out h;have:=bM.out;omega
           have bP:Hid (p<=n):=(by show _<=_;have:=bM.out;omega);have bI:Hid (Kept (fun z=>z<w3.heap.size/\z≠g) w3 w9):=bd.out.trans ⟨ab.out.os,ab.out.tape,ab.out.output,ab.out.size,fun z hz=>ab.out.block z hz.1⟩;clear bg av aX ak bk b9;go_wp2_with fail;go_roundw
           case measure=>exact jw
           case rel=>exact je
          ·have gl:=iQ ((0:Int)<lf);have cK:=iQ (0<lf);have E:Hid (R=([],0,2)):=bk.out 2 (aX.out.1 kR) iX;clear av aX;go_wp2_with fail
           go_ret3
           exact EQ E.out cN.out
      ·have gE:(e4 != 0)=true:=(by simpa using b8);have E:Hid (R=([],0,e4)):=(by have h:=aU.out;rw[Ab b8]at h;exact h);clear b8 aU cc an;go_wp2_with fail;go_quiet (fail);go_wp2_with fail
       go_ret3
       exact EQ E.out (below_drewN L.out _)
     ·obtain rfl:i=q:=by omega
      have gi:=iR ((i:Int)<i);have E:Hid (R=(ts,aQ,0)):=(by have h:=HT.out;rw[Cw lV]at h;exact h);have pa:=b0.out.cells.2.1;have L:Hid (aO w wr):=dd.out.trans (bm.out.below fun b h=>⟨kR,kR⟩);have dO:=hid (iZ be.out (show w.heap.size<=w3.heap.size by omega));clear HT b0 be bm;go_wp2_with fail;go_quiet (fail);go_wp2_with fail
      go_ret3
      rw[E.out];exact⟨_,rfl,by rw[dk.out];exact dZ dO.out (fun y _=>rfl),below_drewN L.out _⟩
 ·have gE:(e0 != 0)=true:=by simpa using bQ
  have E:Hid (R=([],0,e0)):=by have h:=HR.out;have hz:=HZ.out;rw[Ab bQ]at hz;rw[hz,Ab bQ]at h;exact h
  clear bQ HZ HR cC;go_wp2_with fail;go_quiet (fail);go_wp2_with fail
  go_ret3
  exact EQ E.out (below_drewN bY.out _)
end Idx
end Go.Proofs.YtfgdoknipbpfhaaGreatDoor
