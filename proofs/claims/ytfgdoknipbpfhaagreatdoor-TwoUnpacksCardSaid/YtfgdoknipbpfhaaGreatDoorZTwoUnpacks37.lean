/- The walk of the refe -/
import Derived.Test.YtfgdoknipbpfhaaGreatDoorZTwoUnpacks28
import Derived.Test.YtfgdoknipbpfhaaGreatDoorZTwoUnpacks36
namespace Go.Proofs.YtfgdoknipbpfhaaGreatDoor
open Go.Proofs.Tryz
open Go.Lib (hid)
variable{w:World}{at_ j:Nat}
namespace Ef
open Go.RowKit Mem Own Canon NumPut Nums Huff
open Crc (Cv)
def Mx(w:World)(R:List Nat×Nat×Int)(e:Ending)(w':World):Prop:=
 ∃v,e= .returned (.tuple #[v, .int .i64 (R.2.1:Nat),R.2.2])/\w'.ownsRow w 3 1 v R.1.length (cZ .i64 R.1)/\aO w w'
theorem IM{w':World}{R:List Nat×Nat×Int}{er:Int}(hR:R=([],0,er))(hb:aO w w'):Mx w R (.returned (.tuple #[(),iT,er])) w':=by subst hR;exact⟨_,rfl,Aq _ _ _ _,hb⟩
def atR(w:World)(g:Nat):Nat:=(intOf ((w.cell? ⟨g,1,none⟩).getD (.int .i64 0))).toNat
theorem PP{g hi:Nat}{bs:List Bool}(h:RRd w g hi bs at_):atR w g=at_:=by obtain⟨A,c,_,c1,_⟩:=h.cells;unfold atR;rw[c1];exact CA _
theorem Vi{bs:List Bool}(h:yZ bs at_ j=0)(hb:bit bs (at_+j)=0):yZ bs at_ (j+1)=0:=by rw[yZ,h,hb]
theorem Ws{bs:List Bool}{n:Nat}(hb:bit bs (at_+j)=1)(hj:j<n):yZ bs at_ n≠0:=by
 have h1:yZ bs at_ (j+1)≠0:=by rw[yZ,hb];omega
 have h:=Nz bs at_ (j+1) h1 (n-(j+1))
 rwa [show j+1+(n-(j+1))=n by omega]at h
set_option maxHeartbeats 4000000 in
set_option maxRecDepth 100000 in
theorem YO(w:World)(A:Option Addr)(m c bound:Nat)(bs:List Nat)(hm:bs.length=m)(cl:m<=100000)(h8:∀x∈bs,x<=255)(hc:m<=c)(a5:A=none->m=0/\c=0)(ha:Row w w A m 1 (jZ .u8 bs))(hb:bound<=20000):
 Calls prog 273 #[.int .i64 (bound:Nat), .slice A m c] w (Mx w (efR bound bs)):=by
 obtain⟨j0,bg,bq,an,bi⟩:=info_parts PW;have D0:=hid (rnew_any w A m c bs hm cl a5 ha);have bC:bs.length<=100000:=kR
 have D1:=hid (fun wx g B d h=>Gm wx g w bs B d 0 0 bound bC h8 kR h);have cS:=iR ((bound:Int)<0)
 have cU:=iR ((20000:Int)<bound)
 have cg:=iR (20000<bound)
 obtain⟨R,hR⟩:=iS (efR bound bs);rw[<-hR];have cF:zZ bound bs 0 0<=bound:=CI h8 0 0;have bY:nZ bound bs 0 0<=bs.length:=intA_le h8 0 kR;unfold efR at hR;generalize oZ bound bs 0 0=ie at *;generalize zZ bound bs 0 0=n at *;generalize nZ bound bs 0 0=a at *;have bV:Row w w (xZ A a c 1) (m-a) 1 (jZ .u8 (bs.drop a)):=by have h:=Cv (hm ▸ ha:Row w w A bs.length 1 (jZ .u8 bs)) bY (by omega:bs.length<=c);rw[hm]at h;exact h
 have DR:=hid (fun wx (hbx:aO w wx)=>PK wx (xZ A a c 1) (m-a) (c-a) (bs.drop a) (by rw[AK,hm]) kR (fun x hx=>h8 x (Be hx)) ((bV.below hbx).mono hbx.size));have HZ:Hid ((Bg (bs.drop a)).length=8*(m-a)):=by show _=_;rw[Dy,AK,hm]
 have ks:=fun wx=>EM (P:=prog) (t:=28) (s:=1) underlying28 (fun _=>by kernel_rfl) A m c .i64 (a:Int) a rfl kR wx;have HR:=hid hR;generalize xZ A a c 1=A2 at *;generalize Bg (bs.drop a)=E at *;have c0:a<=m:=kR
 clear hm h8 a5 ha hR bV bY;go_enter func273,ntmps273;go_wp2_with fail;refine D0.out.mono ?_;rintro e w1 ⟨g,B,d,rfl,a0,al⟩;have DI:=hid (D1.out w1 g B d a0);have bA:=hid al;have cJ:=a0.lo;have c6:=a0.blk.lt;have di:=al.size;clear a0 al D0 D1;go_wp2_with fail;refine DI.out.mono ?_;rintro e w2 ⟨rfl,aq,a9⟩;have ar:Hid (aO w w2):=bA.out.trans (a9.below fun b h=>⟨kR,kR⟩);have z2:=a9.size;have pa:=aq.cells.2.1;have pe:=aq.cells.2.2;clear a9 bA DI;by_cases aY:ie=0
 ·subst aY;have hr:=HR.out;rw[Aa (show ¬((0:Int)≠0) from fun h=>h rfl)]at hr;by_cases bn:n=0
  ·subst bn;have Q:Hid (R=([],a,0)):=(by rw[Ab rfl]at hr;exact hr);clear hr HR DR aq;go_wp2_with fail;go_quiet (fail);go_wp2_with fail
   go_ret3
   rw[Q.out];exact⟨_,rfl,Aq _ _ _ _,below_drewN ar.out _⟩
  ·rw[Aa bn]at hr;have gn:((n:Int)==0)=false:=lH;have c3:(n==0)=false:=lH;have b4:1<=bound / n:=(Nat.one_le_div_iff kR).2 cF;have cc:bound / n<=1000000:=AY (Hh _ _) kR;have DW:=hid (fun wx=>TP wx (bound / n) b4 cc);have hW:efW bound n<=14:=Rz hb;have b1:Hid (Nat.log2 (bound / n)=efW bound n):=rfl;rw[b1.out]at DW;unfold Ga at hr;generalize efW bound n=W at *;obtain⟨P,hP⟩:=iS (2 ^ W);have bT:P<=16384:=(by rw[hP];have:2 ^ W<=2 ^ 14:=BQ kR hW;omega);have cX:1<=P:=(by rw[hP];exact Nat.one_le_two_pow);rw[<-hP]at DW;have HP:=hid hP;have sq:(bound:Int) / (n:Int)=((bound / n:Nat):Int):=mY;generalize bound / n=qq at *;have bp:=hid hr;have cd:=hid aq;have c1:¬n=0:=bn;clear hr HR aq hP b1 b4;go_wp2_with fail;refine(DW.out _).mono ?_;rintro e dj ⟨rfl,rfl⟩;go_wp2_with fail;refine(DR.out _ ar.out).mono ?_;rintro e w3 ⟨gr,rfl,bh,de,a1⟩;have z3:=a1.size;have cV:g<gr:=kR;have bL:w3.cell? ⟨g,1,none⟩=some (.int .i64 a):=(a1.cell (p:=⟨g,1,none⟩) (by show g<_;omega)).trans pa;have bl:Hid (aO w w3):=ar.out.trans (a1.mono kR);have cP:gr<w3.heap.size:=(by obtain⟨_,_,hh,_⟩:=bh;exact hh.lt);have bD:=hid bh;have ce:=hid bL;have cf:E.length<=800000:=km;have dk:=ar.out.size;clear bh a1 cd DW DR ar pa pe bL;go_wp2_with fail;go_loopw [12,13] (fun v iv wr=>∃k:Nat,k<=n/\iv= .int .i64 k/\Hid (k*W<=E.length)/\Hid (wr.ownsRow w3 3 1 v k (cZ .i64 (Cc W E k)))/\Hid (RRd wr gr w3 E (k*W))/\Hid (Kept (fun x=>x<w3.heap.size/\x≠gr) w3 wr)) (fun _ iv _=>n-(intOf iv).toNat)
   case atStart=>exact⟨0,kR,rfl,mI,Aq _ _ _ _,by rw[Nat.zero_mul];exact bD.out,Kept.refl _ _⟩
   case round=>
    obtain⟨k,hk,rfl,au,HO,ax,HK⟩:=hrel;obtain⟨va,vc,rfl⟩:=aZ HO.out;have zr:=HK.out.size;clear bD;by_cases bR:k<n
    ·have gk:=iQ ((k:Int)<n);have cW:=iQ (k<n);have D:=Ku wr gr w3 E (k*W) W kR ax.out;unfold Gu Gr Gq at D;by_cases L:k*W+W<=E.length
     ·rw[Ab L,Ab L,Ab L]at D;have dh:yZ E (k*W) W<16384:=Em (Ev _ _ _) (by rw[<-HP.out];exact bT);have HS:Hid (Cc W E (k+1)=Cc W E k++ [yZ E (k*W) W]):=Xc _ _ _;have bX:k*W+W=(k+1)*W:=(by rw[FJ]);rw[bX]at D L;have bH:=hid L;generalize yZ E (k*W) W=y at *;have da:IntKind.i64.wrap (y:Int)=(y:Int):=Am _ kR;have D:=hid D;clear L bX au;go_wp2_with fail;refine D.out.mono ?_;rintro e w4 ⟨rfl,aW,Y⟩;have z4:=Y.size;have bP:=hid aW;have a8:Hid (w4.ownsRow w3 3 1 (.slice va k vc) k (cZ .i64 (Cc W E k))):=dZ HO.out (fun z hz=>Y.block z jW);have bN:Hid (Kept (fun x=>x<w3.heap.size/\x≠gr) w3 w4):=HK.out.trans ⟨Y.os,Y.tape,Y.output,Y.size,fun x hx=>Y.block x hx.2⟩;clear aW Y HO ax HK D;go_wp2_with(at_builtin;refine gZ rfl (.tmp 76) (.tmp 79) 37 rfl w3 3 j0 _ 1 8 underlying37 bg bq an bi rfl iX _ _ _ kU (a8.out.alloc _) _ 1 1 [.int .i64 (y:Nat)] kU (Src.of_blk (Blk.made_at _ _ _ mY) 1 1 1 rfl) kw nI kR ni ?_;intro v5 w5 ah bm bM;obtain⟨A5,c5,rfl⟩:=aZ ah);have G:=fun(y:Nat) hy=>(Ae a8.out y hy).1;have ck:Hid (Kept (fun x=>x<w3.heap.size/\x≠gr) w3 w5):=(bN.out.alloc (fun x hx=>by have:=hx.1;omega) _).grown bm (fun x hx=>by have:=hx.1;simp;omega) (fun x hx hh=>by have:=G x hx;have:=hh.1;omega);have cw:Hid (RRd w5 gr w3 E ((k+1)*W)):=bP.out.keep (fun b al hb2=>(bm.block b kT (fun e=>by have:=G b e.symm;omega)).trans (Ca w4 _ b kR));have cB:Hid (w5.ownsRow w3 3 1 (.slice A5 (k+1) c5) (k+1) (cZ .i64 (Cc W E (k+1)))):=(by show World.ownsRow _ _ _ _ _ _ _;rw[HS.out,show cZ .i64 (Cc W E k++ [y])=cZ .i64 (Cc W E k)++ [.int .i64 (y:Nat)] by simp[cZ]];exact ah);clear ah bm bM G HS bP a8 bN;go_roundw
      case measure=>exact jw
      case rel=>go_light;exact⟨k+1,kR,i5,bH.out,cB.out,cw.out,ck.out⟩
     ·rw[Aa L,Aa L,Aa L]at D;have Q:Hid (R=([],0,1)):=(by have h:=bp.out;have h1:(k+1)*W<=n*W:=Fk W bR;rw[FJ]at h1;rw[Ab kR]at h;exact h);have D:=hid D;clear L au;go_wp2_with fail;refine D.out.mono ?_;rintro e w4 ⟨rfl,aW,Y⟩;have cz:Hid (aO w w4):=bl.out.trans ((HK.out.below (fun b h=>⟨kR,kR⟩):Below w w3 wr).trans (Y.below (fun b h=>by omega)));clear aW Y D HK ax HO;go_wp2_with fail
      go_ret3
      exact IM Q.out cz.out
    ·obtain rfl:k=n:=by omega
     have gk:=iR ((k:Int)<k);have hr:=bp.out;rw[Aa (by have:=au.out;omega)]at hr;obtain⟨T,hT⟩:=iS (rowN bound W E (Cc W E k) (k*W) 0 []);rw[<-hT]at hr;have b0:Hid (∀x∈Cc W E k,x<2 ^ W):=Qe W E k;have aP:Hid ((Cc W E k).length=k):=Mv W E k;have bU:Hid (rowN bound W E ((Cc W E k).drop 0) (k*W) 0 []=T):=hT.symm;generalize Cc W E k=lw at *;generalize k*W=N0 at *;have bK:=hid hr;have aQ:Hid (∀a er,T=([],a,er)->er≠0->R=([],0,er)):=fun a er h he=>by rw[hr,h];simp[efG,he]
     obtain⟨w6,rfl⟩:=iS wr;have HV:Hid (∀y,(Value.slice va k vc).ownBlock=some y->w3.heap.size<=y/\y<w6.heap.size):=fun y hy=>Ae HO.out y hy;clear hr hT bp;go_wp2_with fail;go_loopw [16,17,18] (fun v hv iv wr=>∃ (i Z at_:Nat) (J:List Nat),i<=k/\Z<=20000/\at_<=E.length/\hv= .int .i64 Z/\iv= .int .i64 i/\Hid (J.length=i)/\Hid (rowN bound W E (lw.drop i) at_ Z J=T)/\Hid (wr.ownsRow w6 3 1 v i (cZ .i64 J))/\Hid (RRd wr gr w3 E at_)/\Hid (Kept (fun x=>x<w6.heap.size/\x≠gr) w6 wr)) (fun _ _ iv _=>k-(intOf iv).toNat)
     case atStart=>exact⟨0,0,N0,[],kR,kR,au.out,rfl,rfl,rfl,bU.out,Aq _ _ _ _,ax.out,Kept.refl _ _⟩
     case round=>
      obtain⟨i,Z,at_,J,hi,b6,b3,rfl,rfl,HI,HT,ab,aU,am⟩:=hrel;obtain⟨vi,ci,rfl⟩:=aZ ab.out;have zi:=am.out.size;have dg:=zr;clear bU ax;by_cases cE:i<k
      ·have gi:=iQ ((i:Int)<k);have df:=iQ (i<k);obtain⟨x,hx⟩:∃x,lw[i]? =some x:=⟨_,AE (by have:=aP.out;omega)⟩;have aT:lw.drop i=x :: lw.drop (i+1):=(by obtain⟨hl,e⟩:=Ch.1 hx;rw[CU hl,e]);have cK:x<P:=(by rw[HP.out];exact b0.out x (BP hx));obtain⟨gv,cv,cA,cY,_⟩:=HO.out.form kR;injection cA with e1 e2 e3;subst e1 e3;have hT:=HT.out;rw[aT,rowN,<-HP.out]at hT;have DU:=hid (Uj wr gr w3 E at_ aU.out);have cL:=Pz E at_;have bS:=MT b3;generalize unV E at_=dd at *;generalize unE E at_=ue at *;generalize unA E at_=ua at *;obtain⟨U,bQ⟩:=iS (Z+dd);have s1:IntKind.i64.wrap ((Z:Int)+(dd:Int))=(U:Int):=lD;rw[<-bQ]at hT;obtain⟨hw,aS⟩:=iS (U*P);have cM:hw<=13434880000:=(by rw[aS];exact AY (GT (show U<=820000 by omega) bT) iX);have cQ:U<=hw:=(by rw[aS];exact Nat.le_mul_of_pos_right _ kR);have s2:IntKind.i64.wrap ((U:Int)*(P:Int))=(hw:Int):=(by rw[show(U:Int)*(P:Int)=(hw:Int) by rw[aS];simp,Am _ kR]);rw[<-aS]at hT;obtain⟨id,bJ⟩:=iS (hw+x);have s3:IntKind.i64.wrap ((hw:Int)+(x:Int))=(id:Int):=lD;rw[<-bJ]at hT;have cm:U<=id:=kR;have ae:=hid hT;have x0:(0:Int)<=(i:Int):=kR;have x1:(i:Int)<(k:Int):=kR;have HX:=hid hx;clear hT hx aT bQ aS bJ HT;go_wp2_with fail;refine DU.out.mono ?_;rintro e w7 ⟨rfl,bt,af⟩;have z7:=af.size;have aV:=hid bt;have ac:Hid (Kept (fun x=>x<w6.heap.size/\x≠gr) w6 w7):=am.out.trans ⟨af.os,af.tape,af.output,af.size,fun x hx=>af.block x hx.2⟩;have cj:Hid (w7.ownsRow w3 3 1 (.slice (some ⟨gv,0,none⟩) k vc) k (cZ .i64 lw)):=dZ HO.out (fun y hy=>ac.out.block y ⟨(HV.out y hy).2,by have:=(HV.out y hy).1;omega⟩);have M:Hid (w7.ownsRow w6 3 1 (.slice vi i ci) i (cZ .i64 J)):=dZ ab.out (fun y hy=>af.block y (by have:=(Ae ab.out y hy).1;omega));have cx:w7.cell? ⟨gv,i,none⟩=some (.int .i64 (x:Nat)):=(by rw[cj.out.cellAt i kR];unfold cZ;rw[B0,HX.out];rfl);have ak:Hid (aO w w7):=bl.out.trans ((HK.out.below (fun b h=>⟨kR,kR⟩):Below w w3 w6).trans (ac.out.below (fun b h=>⟨kR,kR⟩)));clear bt af ab aU am DU HX;by_cases aw:ue=0
       ·subst aw;have hT:=ae.out;rw[Aa (show ¬((0:Int)≠0) from fun h=>h rfl)]at hT;by_cases bj:i=0
        ·have gz:=iR ((0:Int)<i);have cI:=iR (0<i);have aj:J= []:=FK (HI.out.trans bj);rw[Aa (fun h=>h.1 aj)]at hT;have cR:=hid aj;clear aj bj;by_cases hC:bound<=id
         ·have gC:=iQ ((bound:Int)<=id);have bk:=iQ (bound<=id);have Q:Hid (R=([],0,8)):=lu;clear hT ae hC;go_wp2_with fail
          go_ret3
          exact IM Q.out ak.out
         ·have gC:=iR ((bound:Int)<=id);have bk:=iR (bound<=id);rw[Aa hC]at hT;have bf:=hid hT;have bG:id<=20000:=kR;clear hT ae hC;go_wp2_with(at_builtin;refine gZ rfl (.tmp 119) (.tmp 121) 37 rfl w6 3 j0 _ 1 8 underlying37 bg bq an bi rfl iX _ _ _ kU (M.out.alloc _) _ 1 1 [.int .i64 (id:Nat)] kU (Src.of_blk (Blk.made_at _ _ _ mY) 1 1 1 rfl) kw nI kR ni ?_;intro v8 w8 N ai av;obtain⟨A8,c8,rfl⟩:=aZ N);have G:=fun(y:Nat) hy=>(Ae M.out y hy).1;have co:=ac.out.size;have bd:Hid (Kept (fun x=>x<w6.heap.size/\x≠gr) w6 w8):=(ac.out.alloc (fun x hx=>by have:=hx.1;omega) _).grown ai (fun x hx=>by have:=hx.1;simp;omega) (fun x hx hh=>by have:=G x hx;have:=hh.1;omega);have a7:Hid (RRd w8 gr w3 E ua):=aV.out.keep (fun b al hb2=>(ai.block b kT (fun e=>by have:=G b e.symm;omega)).trans (Ca w7 _ b kR));have bc:Hid (w8.ownsRow w6 3 1 (.slice A8 (i+1) c8) (i+1) (cZ .i64 (J++ [id]))):=mC;clear N ai av G aV M ac;go_roundw
          case measure=>exact jw
          case rel=>exact jb
        ·obtain⟨gq,cq,cC,c7,_⟩:=M.out.form kR;injection cC with e1 e2 e3;subst e1 e3;obtain⟨y,hy⟩:∃y,J[i-1]? =some y:=⟨_,AE (by have:=HI.out;omega)⟩;have a6:J.getLast?.getD 0=y:=(by rw[List.getLast?_eq_getElem?,HI.out,hy];rfl);have az:J≠ []:=fun h=>by rw[h]at hy;simp at hy
         have cy:w7.cell? ⟨gq,i-1,none⟩=some (.int .i64 (y:Nat)):=(by rw[M.out.cellAt (i-1) kR];unfold cZ;rw[B0,hy];rfl);obtain⟨i1,bO⟩:=iS (i-1);rw[<-bO]at cy;have sp:IntKind.i64.wrap ((i:Int)-1)=(i1:Int):=lD;have gz:=iQ ((0:Int)<i);have cI:=iQ (0<i);have c4:(0:Int)<=(i1:Int):=kR;have c2:(i1:Int)<(i:Int):=kR;rw[a6]at hT;clear hy bO bj a6;by_cases hB:id<=y
         ·have gB:=iQ ((id:Int)<=y);have ct:=iQ (id<=y);have Q:Hid (R=([],0,2)):=(by rw[Ab ⟨az,hB⟩]at hT;exact aQ.out _ _ hT.symm iX);clear hB hT ae az;go_wp2_with fail
          go_ret3
          exact IM Q.out ak.out
         ·have gB:=iR ((id:Int)<=y);have ct:=iR (id<=y);rw[Aa (fun h=>hB h.2)]at hT;clear hB az;by_cases hC:bound<=id
          ·have gC:=iQ ((bound:Int)<=id);have bk:=iQ (bound<=id);have Q:Hid (R=([],0,8)):=lu;clear hT ae hC;go_wp2_with fail
           go_ret3
           exact IM Q.out ak.out
          ·have gC:=iR ((bound:Int)<=id);have bk:=iR (bound<=id);rw[Aa hC]at hT;have bf:=hid hT;have bG:id<=20000:=kR;clear hT ae hC;go_wp2_with(at_builtin;refine gZ rfl (.tmp 119) (.tmp 121) 37 rfl w6 3 j0 _ 1 8 underlying37 bg bq an bi rfl iX _ _ _ kU (M.out.alloc _) _ 1 1 [.int .i64 (id:Nat)] kU (Src.of_blk (Blk.made_at _ _ _ mY) 1 1 1 rfl) kw nI kR ni ?_;intro v8 w8 N ai av;obtain⟨A8,c8,rfl⟩:=aZ N);have G:=fun(y:Nat) hy=>(Ae M.out y hy).1;have co:=ac.out.size;have bd:Hid (Kept (fun x=>x<w6.heap.size/\x≠gr) w6 w8):=(ac.out.alloc (fun x hx=>by have:=hx.1;omega) _).grown ai (fun x hx=>by have:=hx.1;simp;omega) (fun x hx hh=>by have:=G x hx;have:=hh.1;omega);have a7:Hid (RRd w8 gr w3 E ua):=aV.out.keep (fun b al hb2=>(ai.block b kT (fun e=>by have:=G b e.symm;omega)).trans (Ca w7 _ b kR));have bc:Hid (w8.ownsRow w6 3 1 (.slice A8 (i+1) c8) (i+1) (cZ .i64 (J++ [id]))):=mC;clear N ai av G aV M ac;go_roundw
           case measure=>exact jw
           case rel=>exact jb
       ·have gE:(ue != 0)=true:=(by simpa using aw);have Q:Hid (R=([],0,ue)):=(by have h:=ae.out;rw[Ab aw]at h;exact aQ.out _ _ h.symm aw);clear aw ae cx;go_wp2_with fail
        go_ret3
        exact IM Q.out ak.out
      ·obtain rfl:i=k:=by omega
       have gi:=iR ((i:Int)<i);have hT:=HT.out;rw[Cw (by rw[aP.out];exact Ai _),rowN]at hT;have hr:=bK.out;rw[<-hT]at hr;simp only at hr;rw[Aa (show ¬((0:Int)≠0) from fun h=>h rfl)]at hr;have a3:=hid hr;have ak:Hid (aO w wr):=bl.out.trans ((HK.out.below (fun b h=>⟨kR,kR⟩):Below w w3 w6).trans (am.out.below (fun b h=>⟨kR,kR⟩)));have cr:Hid (wr.cell? ⟨g,1,none⟩=some (.int .i64 a)):=(World.cell?_of_block (a:=⟨g,1,none⟩) ((am.out.block g ⟨kR,kR⟩).trans (HK.out.block g ⟨kR,kR⟩))).trans ce.out;have M:Hid (wr.ownsRow w 3 1 (.slice vi i ci) i (cZ .i64 J)):=iZ ab.out kR;have bu:∀y,(Value.slice vi i ci).ownBlock=some y->y<wr.heap.size/\y≠gr:=fun y hy=>⟨(Ae ab.out y hy).2,by have:=(Ae ab.out y hy).1;omega⟩;have cG:=hid bu;obtain⟨w7,rfl⟩:=iS wr;have cT:g<w7.heap.size:=kR;clear hT hr HT bK ab bu HO HK am HV au b0 aP hi bR cE aQ;go_wp2_with fail;go_loopw [128] (fun _ wr=>∃j:Nat,j<=Fe at_/\at_+j<=E.length/\Hid (yZ E at_ j=0)/\Hid (RRd wr gr w3 E (at_+j))/\Hid (Kept (fun x=>x<w7.heap.size/\x≠gr) w7 wr)) (fun _ wr=>E.length-atR wr gr)
       case atStart=>exact⟨0,kR,b3,rfl,aU.out,Kept.refl _ _⟩
       case round=>
        obtain⟨j,hj,be,HA,aR,ag⟩:=hrel;obtain⟨A9,c9,d0,d1,k1,a4,_,_⟩:=aR.out.cells;have ay:=hid a4;have b7:Hid (atR wr gr=at_+j):=PP aR.out;have bW:Hid (aO w wr):=ak.out.trans (ag.out.below (fun b h=>⟨kR,kR⟩));have b5:wr.cell? ⟨g,1,none⟩=some (.int .i64 a):=(World.cell?_of_block (a:=⟨g,1,none⟩) (ag.out.block g ⟨kR,kR⟩)).trans cr.out;have bb:Hid (wr.ownsRow w 3 1 (.slice vi i ci) i (cZ .i64 J)):=dZ M.out (fun y hy=>ag.out.block y (cG.out y hy));obtain⟨p,hp⟩:=iS (at_+j);obtain⟨z,hz⟩:=iS E.length;rw[<-hp]at d1 be;rw[<-hz]at d0 be cf;have bI:=hid hp;have cp:=hid hz;clear a4 aU;by_cases bE:p % 8=0
        ·have g8:(((p:Int) % 8) != 0)=false:=(by rw[show(p:Int) % 8=0 by omega];rfl);have aa:j=Fe at_:=(by unfold Fe at hj ⊢;omega);obtain⟨t,ht⟩:=iS ((at_+7) / 8);have st:(p:Int) / 8=(t:Int):=(by unfold Fe at aa;omega);have dc:IntKind.i64.wrap (t:Int)=(t:Int):=Am _ kR;have so:IntKind.i64.wrap ((a:Int)+(t:Int))=((a+t:Nat):Int):=lD;have ch:Hid (R=(J,a+t,0)):=(by have h:=a3.out;rw[<-aa,HA.out,Aa (fun h=>h rfl),<-ht]at h;rw[show R=_ from h];exact Aa (fun h=>h rfl));clear hp hz ht aa bE HA aR ag ay d0 k1 hj;go_wp2_with fail;go_quiet (fail);go_wp2_with fail
         go_ret3
         rw[ch.out];exact⟨_,rfl,by rw[HI.out];exact dZ bb.out (fun y _=>rfl),below_drewN bW.out _⟩
        ·have g8:(((p:Int) % 8) != 0)=true:=l7;have aa:j<Fe at_:=(by unfold Fe at hj ⊢;omega);have cO:p<z:=km;obtain⟨b9,cN,y,rfl,_,hy,e0⟩:=CD ay.out.row (Kc E) (show p<E.length by omega);have ba:bit E p=y:=k7;have x0:(0:Int)<=(p:Int):=kR;have x1:(p:Int)<(z:Int):=kR;have ca:=E6 E p;rw[ba]at ca;have aX:Hid (bit E (at_+j)=y):=(by show _=_;rw[<-hp];exact ba);have HM:Hid (RRd (wr.setCell ⟨gr,1,none⟩ (.int .i64 ((p:Int)+1))) gr w3 E (p+1)):=(by have h:=aR.out.moved (k:=1) kR;rw[<-hp]at h;exact h);clear hy ba ay hp hz bE aR;by_cases an:y=1
         ·subst an;have Q:Hid (R=([],0,2)):=(by have h:=a3.out;rw[Ab (Ws aX.out aa)]at h;rw[show R=_ from h];exact Ab (show(2:Int)≠0 by decide));clear aX HA HM ag bb aa hj;go_wp2_with fail;go_quiet (fail);go_wp2_with fail
          go_ret3
          exact IM Q.out (below_drewN bW.out _)
         ·obtain rfl:y=0:=by omega
          have cu:Hid (yZ E at_ (j+1)=0):=Vi HA.out aX.out;have cH:j+1<=Fe at_:=aa;have bF:at_+(j+1)<=E.length:=(by have:=bI.out;have:=cp.out;omega);have cD:∀q,Hid (Kept (fun x=>x<w7.heap.size/\x≠gr) w7 ((wr.drewN q).setCell ⟨gr,1,none⟩ (.int .i64 ((p:Int)+1)))):=fun q=>(ag.out.drewN q).set (fun h=>h.2 rfl) _;have bB:∀q,Hid (RRd ((wr.drewN q).setCell ⟨gr,1,none⟩ (.int .i64 ((p:Int)+1))) gr w3 E (at_+(j+1))):=fun q=>by rw[show at_+(j+1)=p+1 by have:=bI.out;omega];exact HM.out.drewN q
          have b8:Hid (E.length-(at_+(j+1))<E.length-(at_+j)):=(by show _<_;omega);clear aX HA HM ag bb aa hj an b5 be;go_wp2_with fail;go_quiet (fail);go_wp2_with fail;go_roundw
          case measure=>go_light;rw[b7.out,PP (bB _).out];exact b8.out
          case rel=>go_light;exact⟨j+1,cH,bF,cu.out,(bB _).out,(cD _).out⟩
 ·have gE:(ie != 0)=true:=by simpa using aY
  have Q:Hid (R=([],0,ie)):=by have h:=HR.out;rw[Ab aY]at h;exact h
  clear aY HR DR aq;go_wp2_with fail;go_quiet (fail);go_wp2_with fail
  go_ret3
  exact IM Q.out (below_drewN ar.out _)
end Ef
end Go.Proofs.YtfgdoknipbpfhaaGreatDoor
