/- The walk of the reference's Read of a row of numbers. -/
import Derived.Test.YtbgoibedicbkjaaGreatDoorZTwoOpens27
import Derived.Test.YtbgoibedicbkjaaGreatDoorZTwoOpens32
namespace Go.Proofs.YtbgoibedicbkjaaGreatDoor end Go.Proofs.YtbgoibedicbkjaaGreatDoor open Go.Proofs.YtbgoibedicbkjaaGreatDoor
open Go.Lib (hid)
namespace Go.Proofs.YtbgoibedicbkjaaGreatDoor.Ef
open Go.RowKit Mem Own Canon NumPut Nums Huff
open Go.Proofs.YtbgoibedicbkjaaGreatDoor.Crc (uZ)
def dsZ(w:World)(R:List Nat×Nat×Int)(e:Ending)(w':World):Prop:=
 ∃v,e= .returned (.tuple #[v, .int .i64 (R.2.1:Nat), .int .i64 R.2.2])/\w'.ownsRow w.heap.size 3 1 v R.1.length (cZ .i64 R.1)/\Below w.heap.size w w'
theorem siZ{w w':World}{R:List Nat×Nat×Int}{er:Int}(hR:R=([],0,er))(hb:Below w.heap.size w w'):dsZ w R (.returned (.tuple #[.slice none 0 0, .int .i64 0, .int .i64 er])) w':=by
 subst hR
 exact⟨_,rfl,World.ownsRow_nil _ _ _ _,hb⟩
def atR(w:World)(g:Nat):Nat:=(intOf ((w.cell? ⟨g,1,none⟩).getD (.int .i64 0))).toNat
theorem jfZb{w:World}{g hi at_:Nat}{bs:List Bool}(h:RRd w g hi bs at_):atR w g=at_:=by
 obtain⟨A,c,_,c1,_⟩:=h.cells
 unfold atR
 rw[c1]
 exact Int.toNat_natCast _
theorem kfZb{bs:List Bool}{at_ j:Nat}(h:wbZ bs at_ j=0)(hb:bit bs (at_+j)=0):wbZ bs at_ (j+1)=0:=by rw[wbZ,h,hb]
theorem viZb{bs:List Bool}{at_ j n:Nat}(hb:bit bs (at_+j)=1)(hj:j<n):wbZ bs at_ n≠0:=by
 have h1:wbZ bs at_ (j+1)≠0:=by rw[wbZ,hb];omega
 have h:=arZ bs at_ (j+1) h1 (n-(j+1))
 rwa [show j+1+(n-(j+1))=n by omega]at h
set_option maxHeartbeats 4000000 in
set_option maxRecDepth 100000 in
theorem iyZ(w:World)(A:Option Addr)(m c bound:Nat)(bs:List Nat)(hm:bs.length=m)(hle:m<=100000)(h8:∀x∈bs,x<=255)(hc:m<=c)(hnil:A=none->m=0/\c=0)(ha:Row w w.heap.size A m 1 (mZ .u8 bs))(hb:bound<=20000):
 Calls Tryz.prog 123 #[.int .i64 (bound:Nat), .slice A m c] w (dsZ w (efR bound bs)):=by
 obtain⟨j0,hj0,hy0,hy1,hy2⟩:=info_parts mtZ
 have D0:=hid (rnew_any w A m c bs hm hle hnil ha)
 have hle':bs.length<=100000:=by omega
 have D1:=hid (fun wx g B d h=>qfZ wx g w.heap.size bs B d 0 0 bound hle' h8 (by omega) h)
 have gneg:decide ((bound:Int)<0)=false:=by simp
 have gbig:decide ((20000:Int)<(bound:Int))=false:=by simp;omega
 have gbig':decide (20000<bound)=false:=by simp;omega
 obtain⟨R,hR⟩:∃R,R=efR bound bs:=⟨_,rfl⟩
 rw[<-hR]
 have hvb:tZ bound bs 0 0<=bound:=qbZ h8 0 0
 have hal:pZ bound bs 0 0<=bs.length:=kfZ h8 0 (by omega)
 unfold efR at hR
 generalize qZ bound bs 0 0=ie at *
 generalize tZ bound bs 0 0=n at *
 generalize pZ bound bs 0 0=a at *
 have ha2:Row w w.heap.size (sZ A a c 1) (m-a) 1 (mZ .u8 (bs.drop a)):=by have h:=uZ (hm ▸ ha:Row w w.heap.size A bs.length 1 (mZ .u8 bs)) hal (by omega:bs.length<=c);rw[hm]at h;exact h
 have DR:=hid (fun wx (hbx:Below w.heap.size w wx)=>hyZ wx (sZ A a c 1) (m-a) (c-a) (bs.drop a) (by rw[List.length_drop,hm]) (by omega) (fun x hx=>h8 x (List.mem_of_mem_drop hx)) ((ha2.below hbx).mono hbx.size))
 have HZ:Hid ((ubZ (bs.drop a)).length=8*(m-a)):=by show _=_;rw[nbZ,List.length_drop,hm]
 have ks:=fun wx=>vcZ (P:=Tryz.prog) (t:=22) (s:=1) Tryz.underlying22 (fun _=>by kernel_rfl) A m c .i64 (a:Int) a rfl (by omega) wx
 have HR:=hid hR
 generalize sZ A a c 1=A2 at *
 generalize ubZ (bs.drop a)=bits at *
 have ham:a<=m:=by omega
 clear hm h8 hnil ha hR ha2 hal
 go_enter Tryz.func123,Tryz.ntmps123
 go_wp2_with fail
 refine D0.out.mono ?_
 rintro e w1 ⟨g,B,d,rfl,hc1,hb1⟩
 have DI:=hid (D1.out w1 g B d hc1)
 have HB1:=hid hb1
 have hglo:=hc1.lo
 have hgl:=hc1.blk.lt
 have zw1:=hb1.size
 clear hc1 hb1 D0 D1
 go_wp2_with fail
 refine DI.out.mono ?_
 rintro e w2 ⟨rfl,hc2,hk2⟩
 have HB2:Hid (Below w.heap.size w w2):=HB1.out.trans (hk2.below fun b h=>⟨by omega,by omega⟩)
 have z2:=hk2.size
 have pa:=hc2.cells.2.1
 have pe:=hc2.cells.2.2
 clear hk2 HB1 DI
 by_cases hie:ie=0
 ·subst hie
  have hr:=HR.out
  rw[if_neg (show ¬((0:Int)≠0) from fun h=>h rfl)]at hr
  by_cases hn0:n=0
  ·subst hn0
   have HR0:Hid (R=([],a,0)):=by rw[if_pos rfl]at hr;exact hr
   clear hr HR DR hc2
   go_wp2_with fail
   go_quiet (fail)
   go_wp2_with fail
   go_ret3
   rw[HR0.out]
   exact⟨_,rfl,World.ownsRow_nil _ _ _ _,below_drewN HB2.out _⟩
  ·rw[if_neg hn0]at hr
   have gn:((n:Int)==0)=false:=by rw[beq_eq_false_iff_ne];omega
   have gn':(n==0)=false:=by rw[beq_eq_false_iff_ne];omega
   have hq1:1<=bound / n:=(Nat.one_le_div_iff (by omega)).2 hvb
   have hq2:bound / n<=1000000:=Nat.le_trans (Nat.div_le_self _ _) (by omega)
   have DW:=hid (fun wx=>daZb wx (bound / n) hq1 hq2)
   have hW:efW bound n<=14:=jeZb hb
   have HEW:Hid (Nat.log2 (bound / n)=efW bound n):=rfl
   rw[HEW.out]at DW
   unfold ajZ at hr
   generalize efW bound n=W at *
   obtain⟨P,hP⟩:∃P,P=2 ^ W:=⟨_,rfl⟩
   have hP1:P<=16384:=by rw[hP];have:2 ^ W<=2 ^ 14:=Nat.pow_le_pow_right (by omega) hW;omega
   have hP2:1<=P:=by rw[hP];exact Nat.one_le_two_pow
   rw[<-hP]at DW
   have HP:=hid hP
   have sq:(bound:Int) / (n:Int)=((bound / n:Nat):Int):=by simp
   generalize bound / n=qq at *
   have HRX:=hid hr
   have HC2:=hid hc2
   have nn0:¬n=0:=hn0
   clear hr HR hc2 hP HEW hq1
   go_wp2_with fail
   refine(DW.out _).mono ?_
   rintro e w2' ⟨rfl,rfl⟩
   go_wp2_with fail
   refine(DR.out _ HB2.out).mono ?_
   rintro e w3 ⟨gr,rfl,hR3,hgr,hb3⟩
   have z3:=hb3.size
   have hggr:g<gr:=by omega
   have pa3:w3.cell? ⟨g,1,none⟩=some (.int .i64 a):=(hb3.cell (p:=⟨g,1,none⟩) (by show g<_;omega)).trans pa
   have HB3:Hid (Below w.heap.size w w3):=HB2.out.trans (hb3.mono (by omega))
   have hgr3:gr<w3.heap.size:=by obtain⟨_,_,hh,_⟩:=hR3;exact hh.lt
   have HR3:=hid hR3
   have PA3:=hid pa3
   have hbz:bits.length<=800000:=by have:=HZ.out;omega
   have zz2:=HB2.out.size
   clear hR3 hb3 HC2 DW DR HB2 pa pe pa3
   go_wp2_with fail
   go_loopw [12,13] (fun v iv wr=>∃k:Nat,k<=n/\iv= .int .i64 k/\Hid (k*W<=bits.length)/\Hid (wr.ownsRow w3.heap.size 3 1 v k (cZ .i64 (rbZ W bits k)))/\Hid (RRd wr gr w3.heap.size bits (k*W))/\Hid (Kept (fun x=>x<w3.heap.size/\x≠gr) w3 wr)) (fun _ iv _=>n-(intOf iv).toNat)
   case atStart=>exact⟨0,by omega,rfl,by show _<=_;omega,World.ownsRow_nil _ _ _ _,by rw[Nat.zero_mul];exact HR3.out,Kept.refl _ _⟩
   case round=>
    obtain⟨k,hk,rfl,HKW,HO,HRk,HK⟩:=hrel
    obtain⟨va,vc,rfl⟩:=bZ HO.out
    have zr:=HK.out.size
    clear HR3
    by_cases hkn:k<n
    ·have gk:decide ((k:Int)<(n:Int))=true:=by simp;omega
     have gk':decide (k<n)=true:=by simp;omega
     have D:=qcZb wr gr w3.heap.size bits (k*W) W (by omega) HRk.out
     unfold jpZ kpZ lpZ at D
     by_cases hfit:k*W+W<=bits.length
     ·rw[if_pos hfit,if_pos hfit,if_pos hfit]at D
      have hv2:wbZ bits (k*W) W<16384:=Nat.lt_of_lt_of_le (mjZ _ _ _) (by rw[<-HP.out];exact hP1)
      have HS:Hid (rbZ W bits (k+1)=rbZ W bits k++ [wbZ bits (k*W) W]):=vaZb _ _ _
      have hkW:k*W+W=(k+1)*W:=by rw[Nat.succ_mul]
      rw[hkW]at D hfit
      have HKW2:=hid hfit
      generalize wbZ bits (k*W) W=y at *
      have s64:IntKind.i64.wrap (y:Int)=(y:Int):=IntWalk.i64_in _ (by omega)
      have D:=hid D
      clear hfit hkW HKW
      go_wp2_with fail
      refine D.out.mono ?_
      rintro e w4 ⟨rfl,hR4,hk4⟩
      have z4:=hk4.size
      have HR4:=hid hR4
      have HO4:Hid (w4.ownsRow w3.heap.size 3 1 (.slice va k vc) k (cZ .i64 (rbZ W bits k))):=eZ HO.out (fun z hz=>hk4.block z (by have:=(World.ownsRow.lt HO.out z hz).1;omega))
      have HK4:Hid (Kept (fun x=>x<w3.heap.size/\x≠gr) w3 w4):=HK.out.trans ⟨hk4.os,hk4.tape,hk4.output,hk4.size,fun x hx=>hk4.block x hx.2⟩
      clear hR4 hk4 HO HRk HK D
      go_wp2_with(at_builtin;refine kZ rfl (.tmp 76) (.tmp 79) 30 rfl w3.heap.size 3 j0 _ 1 8 Tryz.underlying30 hj0 hy0 hy1 hy2 rfl (by decide) _ _ _ (by rfl) (HO4.out.alloc _) _ 1 1 [.int .i64 (y:Nat)] (by rfl) (Src.of_blk (Blk.made_at _ _ _ (by simp)) 1 1 1 rfl) (by intro u hu;simp at hu;rcases hu with rfl;rfl) (by unfold maxLen;omega) (by omega) (by simp;omega) ?_;intro v5 w5 hown5 hg5 hat5;obtain⟨A5,c5,rfl⟩:=bZ hown5)
      have hgrow:=fun(y:Nat) hy=>(World.ownsRow.lt HO4.out y hy).1
      have HK5:Hid (Kept (fun x=>x<w3.heap.size/\x≠gr) w3 w5):=(HK4.out.alloc (fun x hx=>by have:=hx.1;omega) _).grown hg5 (fun x hx=>by have:=hx.1;simp;omega) (fun x hx hh=>by have:=hgrow x hx;have:=hh.1;omega)
      have HR5:Hid (RRd w5 gr w3.heap.size bits ((k+1)*W)):=HR4.out.keep (fun b hb1 hb2=>(hg5.block b (by rcases hb2 with h|h<;>simp<;>omega) (fun e=>by have:=hgrow b e.symm;omega)).trans (Below.heap_alloc w4 _ b (by omega)))
      have HO5:Hid (w5.ownsRow w3.heap.size 3 1 (.slice A5 (k+1) c5) (k+1) (cZ .i64 (rbZ W bits (k+1)))):=by
       show World.ownsRow _ _ _ _ _ _ _
       rw[HS.out,show cZ .i64 (rbZ W bits k++ [y])=cZ .i64 (rbZ W bits k)++ [.int .i64 (y:Nat)] by simp[cZ]]
       exact hown5
      clear hown5 hg5 hat5 hgrow HS HR4 HO4 HK4
      go_roundw
      case measure=>go_light;simp[intOf];omega
      case rel=>go_light;exact⟨k+1,by omega,by first|rfl|go_num,HKW2.out,HO5.out,HR5.out,HK5.out⟩
     ·rw[if_neg hfit,if_neg hfit,if_neg hfit]at D
      have HR0:Hid (R=([],0,1)):=by
       have h:=HRX.out
       have h1:(k+1)*W<=n*W:=Nat.mul_le_mul_right W hkn
       rw[Nat.succ_mul]at h1
       rw[if_pos (by omega)]at h
       exact h
      have D:=hid D
      clear hfit HKW
      go_wp2_with fail
      refine D.out.mono ?_
      rintro e w4 ⟨rfl,hR4,hk4⟩
      have HB4:Hid (Below w.heap.size w w4):=HB3.out.trans ((HK.out.below (fun b h=>⟨by omega,by omega⟩):Below w.heap.size w3 wr).trans (hk4.below (fun b h=>by omega)))
      clear hR4 hk4 D HK HRk HO
      go_wp2_with fail
      go_ret3
      exact siZ HR0.out HB4.out
    ·obtain rfl:k=n:=by omega
     have gk:decide ((k:Int)<(k:Int))=false:=by simp
     have hr:=HRX.out
     rw[if_neg (by have:=HKW.out;omega)]at hr
     obtain⟨T,hT⟩:∃T,T=rowN bound W bits (rbZ W bits k) (k*W) 0 []:=⟨_,rfl⟩
     rw[<-hT]at hr
     have HLL:Hid (∀x∈rbZ W bits k,x<2 ^ W):=tvZ W bits k
     have HLEN:Hid ((rbZ W bits k).length=k):=dkZ W bits k
     have HT0:Hid (rowN bound W bits ((rbZ W bits k).drop 0) (k*W) 0 []=T):=hT.symm
     generalize rbZ W bits k=lw at *
     generalize k*W=N0 at *
     have HRR:=hid hr
     have HRE:Hid (∀a er,T=([],a,er)->er≠0->R=([],0,er)):=fun a er h he=>by rw[hr,h];simp[efG,he]
     obtain⟨w6,rfl⟩:∃w6:World,w6=wr:=⟨_,rfl⟩
     have HV:Hid (∀y,(Value.slice va k vc).ownBlock=some y->w3.heap.size<=y/\y<w6.heap.size):=fun y hy=>World.ownsRow.lt HO.out y hy
     clear hr hT HRX
     go_wp2_with fail
     go_loopw [16,17,18] (fun v hv iv wr=>∃ (i high at_:Nat) (ids:List Nat),i<=k/\high<=20000/\at_<=bits.length/\hv= .int .i64 high/\iv= .int .i64 i/\Hid (ids.length=i)/\Hid (rowN bound W bits (lw.drop i) at_ high ids=T)/\Hid (wr.ownsRow w6.heap.size 3 1 v i (cZ .i64 ids))/\Hid (RRd wr gr w3.heap.size bits at_)/\Hid (Kept (fun x=>x<w6.heap.size/\x≠gr) w6 wr)) (fun _ _ iv _=>k-(intOf iv).toNat)
     case atStart=>exact⟨0,0,N0,[],by omega,by omega,HKW.out,rfl,rfl,rfl,HT0.out,World.ownsRow_nil _ _ _ _,HRk.out,Kept.refl _ _⟩
     case round=>
      obtain⟨i,high,at_,ids,hi,hhigh,hat,rfl,rfl,HI,HT,HOI,HRi,HKi⟩:=hrel
      obtain⟨vi,ci,rfl⟩:=bZ HOI.out
      have zi:=HKi.out.size
      have zr6:=zr
      clear HT0 HRk
      by_cases hin:i<k
      ·have gi:decide ((i:Int)<(k:Int))=true:=by simp;omega
       have gi':decide (i<k)=true:=by simp;omega
       obtain⟨x,hx⟩:∃x,lw[i]? =some x:=⟨_,List.getElem?_eq_getElem (by have:=HLEN.out;omega)⟩
       have hdrop:lw.drop i=x :: lw.drop (i+1):=by
        obtain⟨hl,e⟩:=List.getElem?_eq_some_iff.1 hx
        rw[List.drop_eq_getElem_cons hl,e]
       have hxlt:x<P:=by rw[HP.out];exact HLL.out x (List.mem_of_getElem? hx)
       obtain⟨gv,cv,hAv,hgv,_⟩:=HO.out.form (by omega)
       injection hAv with e1 e2 e3
       subst e1 e3
       have hT:=HT.out
       rw[hdrop,rowN,<-HP.out]at hT
       have DU:=hid (tcZb wr gr w3.heap.size bits at_ HRi.out)
       have hdle:=qdZb bits at_
       have hua:=uvZ hat
       generalize unV bits at_=dd at *
       generalize unE bits at_=ue at *
       generalize unA bits at_=ua at *
       obtain⟨h2',hh2⟩:∃h2',h2'=high+dd:=⟨_,rfl⟩
       have s1:IntKind.i64.wrap ((high:Int)+(dd:Int))=(h2':Int):=by rw[IntWalk.i64_in _ (by omega)];omega
       rw[<-hh2]at hT
       obtain⟨hw,hhw⟩:∃hw,hw=h2'*P:=⟨_,rfl⟩
       have hwle:hw<=13434880000:=by rw[hhw];exact Nat.le_trans (Nat.mul_le_mul (show h2'<=820000 by omega) hP1) (by decide)
       have hwge:h2'<=hw:=by rw[hhw];exact Nat.le_mul_of_pos_right _ (by omega)
       have s2:IntKind.i64.wrap ((h2':Int)*(P:Int))=(hw:Int):=by
        rw[show(h2':Int)*(P:Int)=(hw:Int) by rw[hhw];simp,IntWalk.i64_in _ (by omega)]
       rw[<-hhw]at hT
       obtain⟨id,hjd⟩:∃id,id=hw+x:=⟨_,rfl⟩
       have s3:IntKind.i64.wrap ((hw:Int)+(x:Int))=(id:Int):=by rw[IntWalk.i64_in _ (by omega)];omega
       rw[<-hjd]at hT
       have hidge:h2'<=id:=by omega
       have HTT:=hid hT
       have x0:(0:Int)<=(i:Int):=by omega
       have x1:(i:Int)<(k:Int):=by omega
       have HX:=hid hx
       clear hT hx hdrop hh2 hhw hjd HT
       go_wp2_with fail
       refine DU.out.mono ?_
       rintro e w7 ⟨rfl,hR7,hk7⟩
       have z7:=hk7.size
       have HR7:=hid hR7
       have HK7:Hid (Kept (fun x=>x<w6.heap.size/\x≠gr) w6 w7):=HKi.out.trans ⟨hk7.os,hk7.tape,hk7.output,hk7.size,fun x hx=>hk7.block x hx.2⟩
       have HO7:Hid (w7.ownsRow w3.heap.size 3 1 (.slice (some ⟨gv,0,none⟩) k vc) k (cZ .i64 lw)):=eZ HO.out (fun y hy=>HK7.out.block y ⟨(HV.out y hy).2,by have:=(HV.out y hy).1;omega⟩)
       have HOI7:Hid (w7.ownsRow w6.heap.size 3 1 (.slice vi i ci) i (cZ .i64 ids)):=eZ HOI.out (fun y hy=>hk7.block y (by have:=(World.ownsRow.lt HOI.out y hy).1;omega))
       have cx:w7.cell? ⟨gv,i,none⟩=some (.int .i64 (x:Nat)):=by
        rw[HO7.out.cellAt i (by omega)]
        unfold cZ
        rw[List.getElem?_map,HX.out]
        rfl
       have HB7:Hid (Below w.heap.size w w7):=HB3.out.trans ((HK.out.below (fun b h=>⟨by omega,by omega⟩):Below w.heap.size w3 w6).trans (HK7.out.below (fun b h=>⟨by omega,by omega⟩)))
       clear hR7 hk7 HOI HRi HKi DU HX
       by_cases hue:ue=0
       ·subst hue
        have hT:=HTT.out
        rw[if_neg (show ¬((0:Int)≠0) from fun h=>h rfl)]at hT
        by_cases hi0:i=0
        ·have gz:decide ((0:Int)<(i:Int))=false:=by simp;omega
         have gz':decide (0<i)=false:=by simp;omega
         have hnil0:ids= []:=List.eq_nil_of_length_eq_zero (HI.out.trans hi0)
         rw[if_neg (fun h=>h.1 hnil0)]at hT
         have HNIL:=hid hnil0
         clear hnil0 hi0
         by_cases hC:bound<=id
         ·have gC:decide ((bound:Int)<=(id:Int))=true:=by simp;omega
          have gC':decide (bound<=id)=true:=by simp;omega
          have HR0:Hid (R=([],0,8)):=by rw[if_pos hC]at hT;exact HRE.out _ _ hT.symm (by decide)
          clear hT HTT hC
          go_wp2_with fail
          go_ret3
          exact siZ HR0.out HB7.out
         ·have gC:decide ((bound:Int)<=(id:Int))=false:=by simp;omega
          have gC':decide (bound<=id)=false:=by simp;omega
          rw[if_neg hC]at hT
          have HT4:=hid hT
          have hid2:id<=20000:=by omega
          clear hT HTT hC
          go_wp2_with(at_builtin;refine kZ rfl (.tmp 119) (.tmp 121) 30 rfl w6.heap.size 3 j0 _ 1 8 Tryz.underlying30 hj0 hy0 hy1 hy2 rfl (by decide) _ _ _ (by rfl) (HOI7.out.alloc _) _ 1 1 [.int .i64 (id:Nat)] (by rfl) (Src.of_blk (Blk.made_at _ _ _ (by simp)) 1 1 1 rfl) (by intro u hu;simp at hu;rcases hu with rfl;rfl) (by unfold maxLen;omega) (by omega) (by simp;omega) ?_;intro v8 w8 hown8 hg8 hat8;obtain⟨A8,c8,rfl⟩:=bZ hown8)
          have hgrow:=fun(y:Nat) hy=>(World.ownsRow.lt HOI7.out y hy).1
          have zk7:=HK7.out.size
          have HK8:Hid (Kept (fun x=>x<w6.heap.size/\x≠gr) w6 w8):=(HK7.out.alloc (fun x hx=>by have:=hx.1;omega) _).grown hg8 (fun x hx=>by have:=hx.1;simp;omega) (fun x hx hh=>by have:=hgrow x hx;have:=hh.1;omega)
          have HR8:Hid (RRd w8 gr w3.heap.size bits ua):=HR7.out.keep (fun b hb1 hb2=>(hg8.block b (by rcases hb2 with h|h<;>simp<;>omega) (fun e=>by have:=hgrow b e.symm;omega)).trans (Below.heap_alloc w7 _ b (by omega)))
          have HO8:Hid (w8.ownsRow w6.heap.size 3 1 (.slice A8 (i+1) c8) (i+1) (cZ .i64 (ids++ [id]))):=by
           show World.ownsRow _ _ _ _ _ _ _
           rw[show cZ .i64 (ids++ [id])=cZ .i64 ids++ [.int .i64 (id:Nat)] by simp[cZ]]
           exact hown8
          clear hown8 hg8 hat8 hgrow HR7 HOI7 HK7
          go_roundw
          case measure=>go_light;simp[intOf];omega
          case rel=>go_light;exact⟨i+1,h2',ua,ids++ [id],by omega,by omega,hua,by first|rfl|go_num,by first|rfl|go_num,by show _=_;rw[List.length_append,HI.out];rfl,HT4.out,HO8.out,HR8.out,HK8.out⟩
        ·obtain⟨gq,cq,hAq,hgq,_⟩:=HOI7.out.form (by omega)
         injection hAq with e1 e2 e3
         subst e1 e3
         obtain⟨y,hy⟩:∃y,ids[i-1]? =some y:=⟨_,List.getElem?_eq_getElem (by have:=HI.out;omega)⟩
         have hgl2:ids.getLast?.getD 0=y:=by rw[List.getLast?_eq_getElem?,HI.out,hy];rfl
         have hne0:ids≠ []:=fun h=>by rw[h]at hy;simp at hy
         have cy:w7.cell? ⟨gq,i-1,none⟩=some (.int .i64 (y:Nat)):=by
          rw[HOI7.out.cellAt (i-1) (by omega)]
          unfold cZ
          rw[List.getElem?_map,hy]
          rfl
         obtain⟨i1,hi1⟩:∃i1,i1=i-1:=⟨_,rfl⟩
         rw[<-hi1]at cy
         have sp:IntKind.i64.wrap ((i:Int)-1)=(i1:Int):=by rw[IntWalk.i64_in _ (by omega)];omega
         have gz:decide ((0:Int)<(i:Int))=true:=by simp;omega
         have gz':decide (0<i)=true:=by simp;omega
         have x10:(0:Int)<=(i1:Int):=by omega
         have x11:(i1:Int)<(i:Int):=by omega
         rw[hgl2]at hT
         clear hy hi1 hi0 hgl2
         by_cases hB:id<=y
         ·have gB:decide ((id:Int)<=(y:Int))=true:=by simp;omega
          have gB':decide (id<=y)=true:=by simp;omega
          have HR0:Hid (R=([],0,2)):=by rw[if_pos ⟨hne0,hB⟩]at hT;exact HRE.out _ _ hT.symm (by decide)
          clear hB hT HTT hne0
          go_wp2_with fail
          go_ret3
          exact siZ HR0.out HB7.out
         ·have gB:decide ((id:Int)<=(y:Int))=false:=by simp;omega
          have gB':decide (id<=y)=false:=by simp;omega
          rw[if_neg (fun h=>hB h.2)]at hT
          clear hB hne0
          by_cases hC:bound<=id
          ·have gC:decide ((bound:Int)<=(id:Int))=true:=by simp;omega
           have gC':decide (bound<=id)=true:=by simp;omega
           have HR0:Hid (R=([],0,8)):=by rw[if_pos hC]at hT;exact HRE.out _ _ hT.symm (by decide)
           clear hT HTT hC
           go_wp2_with fail
           go_ret3
           exact siZ HR0.out HB7.out
          ·have gC:decide ((bound:Int)<=(id:Int))=false:=by simp;omega
           have gC':decide (bound<=id)=false:=by simp;omega
           rw[if_neg hC]at hT
           have HT4:=hid hT
           have hid2:id<=20000:=by omega
           clear hT HTT hC
           go_wp2_with(at_builtin;refine kZ rfl (.tmp 119) (.tmp 121) 30 rfl w6.heap.size 3 j0 _ 1 8 Tryz.underlying30 hj0 hy0 hy1 hy2 rfl (by decide) _ _ _ (by rfl) (HOI7.out.alloc _) _ 1 1 [.int .i64 (id:Nat)] (by rfl) (Src.of_blk (Blk.made_at _ _ _ (by simp)) 1 1 1 rfl) (by intro u hu;simp at hu;rcases hu with rfl;rfl) (by unfold maxLen;omega) (by omega) (by simp;omega) ?_;intro v8 w8 hown8 hg8 hat8;obtain⟨A8,c8,rfl⟩:=bZ hown8)
           have hgrow:=fun(y:Nat) hy=>(World.ownsRow.lt HOI7.out y hy).1
           have zk7:=HK7.out.size
           have HK8:Hid (Kept (fun x=>x<w6.heap.size/\x≠gr) w6 w8):=(HK7.out.alloc (fun x hx=>by have:=hx.1;omega) _).grown hg8 (fun x hx=>by have:=hx.1;simp;omega) (fun x hx hh=>by have:=hgrow x hx;have:=hh.1;omega)
           have HR8:Hid (RRd w8 gr w3.heap.size bits ua):=HR7.out.keep (fun b hb1 hb2=>(hg8.block b (by rcases hb2 with h|h<;>simp<;>omega) (fun e=>by have:=hgrow b e.symm;omega)).trans (Below.heap_alloc w7 _ b (by omega)))
           have HO8:Hid (w8.ownsRow w6.heap.size 3 1 (.slice A8 (i+1) c8) (i+1) (cZ .i64 (ids++ [id]))):=by
            show World.ownsRow _ _ _ _ _ _ _
            rw[show cZ .i64 (ids++ [id])=cZ .i64 ids++ [.int .i64 (id:Nat)] by simp[cZ]]
            exact hown8
           clear hown8 hg8 hat8 hgrow HR7 HOI7 HK7
           go_roundw
           case measure=>go_light;simp[intOf];omega
           case rel=>go_light;exact⟨i+1,h2',ua,ids++ [id],by omega,by omega,hua,by first|rfl|go_num,by first|rfl|go_num,by show _=_;rw[List.length_append,HI.out];rfl,HT4.out,HO8.out,HR8.out,HK8.out⟩
       ·have gE:(ue != 0)=true:=by simpa using hue
        have HR0:Hid (R=([],0,ue)):=by have h:=HTT.out;rw[if_pos hue]at h;exact HRE.out _ _ h.symm hue
        clear hue HTT cx
        go_wp2_with fail
        go_ret3
        exact siZ HR0.out HB7.out
      ·obtain rfl:i=k:=by omega
       have gi:decide ((i:Int)<(i:Int))=false:=by simp
       have hT:=HT.out
       rw[List.drop_of_length_le (by rw[HLEN.out];exact Nat.le_refl _),rowN]at hT
       have hr:=HRR.out
       rw[<-hT]at hr
       simp only at hr
       rw[if_neg (show ¬((0:Int)≠0) from fun h=>h rfl)]at hr
       have HRR2:=hid hr
       have HB7:Hid (Below w.heap.size w wr):=HB3.out.trans ((HK.out.below (fun b h=>⟨by omega,by omega⟩):Below w.heap.size w3 w6).trans (HKi.out.below (fun b h=>⟨by omega,by omega⟩)))
       have PA7:Hid (wr.cell? ⟨g,1,none⟩=some (.int .i64 a)):=(World.cell?_of_block (a:=⟨g,1,none⟩) ((HKi.out.block g ⟨by omega,by omega⟩).trans (HK.out.block g ⟨by omega,by omega⟩))).trans PA3.out
       have HOI7:Hid (wr.ownsRow w.heap.size 3 1 (.slice vi i ci) i (cZ .i64 ids)):=lZ HOI.out (by omega)
       have hog:∀y,(Value.slice vi i ci).ownBlock=some y->y<wr.heap.size/\y≠gr:=fun y hy=>⟨(World.ownsRow.lt HOI.out y hy).2,by have:=(World.ownsRow.lt HOI.out y hy).1;omega⟩
       have HOG:=hid hog
       obtain⟨w7,rfl⟩:∃w7:World,w7=wr:=⟨_,rfl⟩
       have hgw7:g<w7.heap.size:=by omega
       clear hT hr HT HRR HOI hog HO HK HKi HV HKW HLL HLEN hi hkn hin HRE
       go_wp2_with fail
       go_loopw [128] (fun _ wr=>∃j:Nat,j<=khZ at_/\at_+j<=bits.length/\Hid (wbZ bits at_ j=0)/\Hid (RRd wr gr w3.heap.size bits (at_+j))/\Hid (Kept (fun x=>x<w7.heap.size/\x≠gr) w7 wr)) (fun _ wr=>bits.length-atR wr gr)
       case atStart=>exact⟨0,by omega,hat,rfl,HRi.out,Kept.refl _ _⟩
       case round=>
        obtain⟨j,hj,hjl,HA,HRj,HKj⟩:=hrel
        obtain⟨A9,c9,d0,d1,k1,hrow,_,_⟩:=HRj.out.cells
        have HROW:=hid hrow
        have HME:Hid (atR wr gr=at_+j):=jfZb HRj.out
        have HB9:Hid (Below w.heap.size w wr):=HB7.out.trans (HKj.out.below (fun b h=>⟨by omega,by omega⟩))
        have pa9:wr.cell? ⟨g,1,none⟩=some (.int .i64 a):=(World.cell?_of_block (a:=⟨g,1,none⟩) (HKj.out.block g ⟨by omega,by omega⟩)).trans PA7.out
        have HO9:Hid (wr.ownsRow w.heap.size 3 1 (.slice vi i ci) i (cZ .i64 ids)):=eZ HOI7.out (fun y hy=>HKj.out.block y (HOG.out y hy))
        obtain⟨p,hp⟩:∃p,p=at_+j:=⟨_,rfl⟩
        obtain⟨z,hz⟩:∃z,z=bits.length:=⟨_,rfl⟩
        rw[<-hp]at d1 hjl
        rw[<-hz]at d0 hjl hbz
        have HPJ:=hid hp
        have HZZ:=hid hz
        clear hrow HRi
        by_cases hp8:p % 8=0
        ·have g8:(((p:Int) % 8) != 0)=false:=by rw[show(p:Int) % 8=0 by omega];rfl
         have hjp:j=khZ at_:=by unfold khZ at hj ⊢;omega
         obtain⟨t,ht⟩:∃t,t=(at_+7) / 8:=⟨_,rfl⟩
         have st:(p:Int) / 8=(t:Int):=by unfold khZ at hjp;omega
         have st2:IntKind.i64.wrap (t:Int)=(t:Int):=IntWalk.i64_in _ (by omega)
         have so:IntKind.i64.wrap ((a:Int)+(t:Int))=((a+t:Nat):Int):=by rw[IntWalk.i64_in _ (by omega)];omega
         have HRF:Hid (R=(ids,a+t,0)):=by
          have h:=HRR2.out
          rw[<-hjp,HA.out,if_neg (fun h=>h rfl),<-ht]at h
          rw[show R=_ from h]
          exact if_neg (fun h=>h rfl)
         clear hp hz ht hjp hp8 HA HRj HKj HROW d0 k1 hj
         go_wp2_with fail
         go_quiet (fail)
         go_wp2_with fail
         go_ret3
         rw[HRF.out]
         exact⟨_,rfl,by rw[HI.out];exact eZ HO9.out (fun y _=>rfl),below_drewN HB9.out _⟩
        ·have g8:(((p:Int) % 8) != 0)=true:=by rw[bne_iff_ne];omega
         have hjp:j<khZ at_:=by unfold khZ at hj ⊢;omega
         have hplt:p<z:=by have:=HZ.out;omega
         obtain⟨b9,off9,y,rfl,_,hy,e0⟩:=kbZ HROW.out.row (fjZ bits) (show p<bits.length by omega)
         have hyb:bit bits p=y:=by rw[<-grZ,List.getD_eq_getElem?_getD,hy];rfl
         have x0:(0:Int)<=(p:Int):=by omega
         have x1:(p:Int)<(z:Int):=by omega
         have hby:=reZ bits p
         rw[hyb]at hby
         have HYB:Hid (bit bits (at_+j)=y):=by show _=_;rw[<-hp];exact hyb
         have HM:Hid (RRd (wr.setCell ⟨gr,1,none⟩ (.int .i64 ((p:Int)+1))) gr w3.heap.size bits (p+1)):=by
          have h:=HRj.out.moved (k:=1) (by omega)
          rw[<-hp]at h
          exact h
         clear hy hyb HROW hp hz hp8 HRj
         by_cases hy1:y=1
         ·subst hy1
          have HR0:Hid (R=([],0,2)):=by
           have h:=HRR2.out
           rw[if_pos (viZb HYB.out hjp)]at h
           rw[show R=_ from h]
           exact if_pos (show(2:Int)≠0 by decide)
          clear HYB HA HM HKj HO9 hjp hj
          go_wp2_with fail
          go_quiet (fail)
          go_wp2_with fail
          go_ret3
          exact siZ HR0.out (below_drewN HB9.out _)
         ·obtain rfl:y=0:=by omega
          have HA2:Hid (wbZ bits at_ (j+1)=0):=kfZb HA.out HYB.out
          have hj1:j+1<=khZ at_:=hjp
          have hjl1:at_+(j+1)<=bits.length:=by have:=HPJ.out;have:=HZZ.out;omega
          have HKS:∀q,Hid (Kept (fun x=>x<w7.heap.size/\x≠gr) w7 ((wr.drewN q).setCell ⟨gr,1,none⟩ (.int .i64 ((p:Int)+1)))):=fun q=>(HKj.out.drewN q).set (fun h=>h.2 rfl) _
          have HMS:∀q,Hid (RRd ((wr.drewN q).setCell ⟨gr,1,none⟩ (.int .i64 ((p:Int)+1))) gr w3.heap.size bits (at_+(j+1))):=fun q=>by rw[show at_+(j+1)=p+1 by have:=HPJ.out;omega];exact HM.out.drewN q
          have HLT:Hid (bits.length-(at_+(j+1))<bits.length-(at_+j)):=by show _<_;omega
          clear HYB HA HM HKj HO9 hjp hj hy1 pa9 hjl
          go_wp2_with fail
          go_quiet (fail)
          go_wp2_with fail
          go_roundw
          case measure=>go_light;rw[HME.out,jfZb (HMS _).out];exact HLT.out
          case rel=>go_light;exact⟨j+1,hj1,hjl1,HA2.out,(HMS _).out,(HKS _).out⟩
 ·have gE:(ie != 0)=true:=by simpa using hie
  have HR0:Hid (R=([],0,ie)):=by have h:=HR.out;rw[if_pos hie]at h;exact h
  clear hie HR DR hc2
  go_wp2_with fail
  go_quiet (fail)
  go_wp2_with fail
  go_ret3
  exact siZ HR0.out (below_drewN HB2.out _)
end Go.Proofs.YtbgoibedicbkjaaGreatDoor.Ef
