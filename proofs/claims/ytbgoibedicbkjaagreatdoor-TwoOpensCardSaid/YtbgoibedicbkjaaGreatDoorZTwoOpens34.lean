/- The walk of the reference's Read of a dictionary. -/
import Derived.Test.YtbgoibedicbkjaaGreatDoorZTwoOpens20
import Derived.Test.YtbgoibedicbkjaaGreatDoorZTwoOpens29
import Derived.Test.YtbgoibedicbkjaaGreatDoorZTwoOpens13
namespace Go.Proofs.YtbgoibedicbkjaaGreatDoor end Go.Proofs.YtbgoibedicbkjaaGreatDoor open Go.Proofs.YtbgoibedicbkjaaGreatDoor
open Go.Lib (hid)
namespace Go.Proofs.YtbgoibedicbkjaaGreatDoor.Idx
open Go.RowKit Mem Own Canon Sift
open NumPut Recs Go.Proofs.YtbgoibedicbkjaaGreatDoor Crc Block
open Nums
def lnZ(w:World)(R:List Str×Nat×Int)(e:Ending)(w':World):Prop:=
 ∃v,e= .returned (.tuple #[v, .int .i64 (R.2.1:Nat), .int .i64 R.2.2])/\w'.ownsRow w.heap.size 9 1 v R.1.length (ccZ R.1)/\Below w.heap.size w w'
theorem hcZ{w w':World}{R:List Str×Nat×Int}{er:Int}(hR:R=([],0,er))(hb:Below w.heap.size w w'):lnZ w R (.returned (.tuple #[.slice none 0 0, .int .i64 0, .int .i64 er])) w':=by
 subst hR
 exact⟨_,rfl,World.ownsRow_nil _ _ _ _,hb⟩
theorem brZ{w w':World}{g base c at_:Nat}{bs2:List Nat}{A:Option Addr}{er:Int}{K:Nat->Prop}(h:RCur w g base bs2 A c at_ er)(hk:Kept K w w')(hg:K g)(hK:∀x,(Value.slice A bs2.length c).ownBlock=some x->K x):RCur w' g base bs2 A c at_ er:=
 ⟨(hk.block g hg).trans h.blk,eZ h.own (fun x hx=>hk.block x (hK x hx)),h.le,h.lo⟩
theorem wiZb{ls:List Nat}(h8:∀x∈ls,x<=255)(a:Nat)(er:Int)(k:Nat):∀x∈fbZ ls a er k,x<=255:=fun x hx=>by
 unfold fbZ at hx
 split at hx
 ·cases hx
 ·split at hx
  ·cases hx
  ·exact h8 x (List.mem_of_mem_drop (List.mem_of_mem_take hx))
theorem lfZb(ls:List Nat)(a:Nat)(er:Int)(k:Nat):(fbZ ls a er k).length<=ls.length:=by
 unfold fbZ
 split
 ·exact Nat.zero_le _
 ·split
  ·exact Nat.zero_le _
  ·rw[List.length_take,List.length_drop];omega
theorem sbZb(t:Str):(({data:=#[] }:ByteArray))++bs t=bs t:=vvZ [] t
set_option maxHeartbeats 4000000 in
set_option maxRecDepth 100000 in
theorem jyZ(w:World)(A:Option Addr)(m c size:Nat)(ls:List Nat)(hm:ls.length=m)(hle:m<=100000)(h8:∀x∈ls,x<=255)(hnil:A=none->m=0/\c=0)(ha:Row w w.heap.size A m 1 (mZ .u8 ls))(hs1:1<=size)(hs2:size<=64):
 Calls Tryz.prog 122 #[.int .i64 (size:Nat), .slice A m c] w (lnZ w (zdZ size ls)):=by
 obtain⟨j0,hj0,hy0,hy1,hy2⟩:=info_parts ftZ
 obtain⟨j1,hj1,hx0,hx1,hx2⟩:=info_parts etZ
 have D0:=hid (rnew_any w A m c ls hm hle hnil ha)
 have hle':ls.length<=100000:=by omega
 have HLE:=hid hle'
 have H8:=hid h8
 have D1:=hid (fun wx g B d h=>qfZ wx g w.heap.size ls B d 0 0 1048576 hle' h8 (by omega) h)
 have gs1:decide ((size:Int)<1)=false:=by simp;omega
 have gs1':decide (size<1)=false:=by simp;omega
 have gs2:decide ((64:Int)<(size:Int))=false:=by simp;omega
 have gs2':decide (64<size)=false:=by simp;omega
 obtain⟨R,hR⟩:∃R,R=zdZ size ls:=⟨_,rfl⟩
 rw[<-hR]
 unfold zdZ at hR
 obtain⟨Z,hZ⟩:∃Z,Z=chZ size ls:=⟨_,rfl⟩
 rw[<-hZ]at hR
 unfold chZ at hZ
 have hvb:tZ 1048576 ls 0 0<=1048576:=qbZ h8 0 0
 generalize tZ 1048576 ls 0 0=n at *
 generalize pZ 1048576 ls 0 0=a0 at *
 generalize qZ 1048576 ls 0 0=e0 at *
 have HR:=hid hR
 have HZ:=hid hZ
 clear hm h8 hnil ha hR hZ hle hle'
 go_enter Tryz.func122,Tryz.ntmps122
 go_wp2_with fail
 refine D0.out.mono ?_
 rintro e w1 ⟨g,B,d,rfl,hc1,hb1⟩
 have DI:=hid (D1.out w1 g B d hc1)
 have HB1:=hid hb1
 have hglo:=hc1.lo
 have hgl:=hc1.blk.lt
 have zw1:=hb1.size
 have HCB:Hid (∀y,(Value.slice B ls.length d).ownBlock=some y->y<w1.heap.size):=fun y hy=>(World.ownsRow.lt hc1.own y hy).2
 clear hc1 hb1 D0 D1
 go_wp2_with fail
 refine DI.out.mono ?_
 rintro e w2 ⟨rfl,hc2,hk2⟩
 have HB2:Hid (Below w.heap.size w w2):=HB1.out.trans (hk2.below fun b h=>⟨by omega,by omega⟩)
 have z2:=hk2.size
 have HC2:=hid hc2
 have pe:=hc2.cells.2.2
 clear hc2 hk2 HB1 DI
 by_cases he0:e0=0
 ·subst he0
  have hz:=HZ.out
  rw[if_neg (show ¬((0:Int)≠0) from fun h=>h rfl)]at hz
  have HZ0:Hid (∃f,n<=f+0/\szR n size ls f a0 0 []=Z):=⟨n,by omega,hz.symm⟩
  clear hz HZ
  go_wp2_with fail
  go_loopw [9,10] (fun v xv wr=>∃ (x at_ q:Nat) (acc:List Nat),x<=n+64/\q<=x/\xv= .int .i64 x/\Hid (acc.length=q)/\Hid (q*size=x)/\Hid (0<q->x<n+size)/\Hid (∀y∈acc,y<=2000)/\Hid (RCur wr g w.heap.size ls B d at_ 0)/\Hid (wr.ownsRow w2.heap.size 3 1 v q (cZ .i64 acc))/\Hid (Kept (fun y=>y<w2.heap.size/\y≠g) w2 wr)/\Hid (∃f,n<=f+x/\szR n size ls f at_ x acc=Z)) (fun _ xv _=>n+64-(intOf xv).toNat)
  case atStart=>exact⟨0,a0,0,[],by omega,by omega,rfl,rfl,by show _=_;omega,fun h=>by omega,fun y hy=>by simp at hy,HC2.out,World.ownsRow_nil _ _ _ _,Kept.refl _ _,HZ0.out⟩
  case round=>
   obtain⟨x,at_,q,acc,hx,hqx,rfl,HQ,HQX,HXN,HA,HC,HO,HK,HT⟩:=hrel
   have zk:=HK.out.size
   obtain⟨va,vc,rfl⟩:=bZ HO.out
   clear HZ0 HC2 pe
   by_cases hlt:x<n
   ·have g1:decide ((x:Int)<(n:Int))=true:=by simp;omega
    have g1':decide (x<n)=true:=by simp;omega
    obtain⟨f,hf,hT⟩:=HT.out
    obtain⟨f,rfl⟩:∃f',f=f'+1:=⟨f-1,by omega⟩
    rw[szR,if_neg (by omega)]at hT
    have D:=hid (fun wx hx=>qfZ wx g w.heap.size ls B d at_ 0 2000 HLE.out H8.out (by omega) hx)
    have hk2:tZ 2000 ls at_ 0<=2000:=qbZ H8.out _ _
    generalize tZ 2000 ls at_ 0=k at *
    generalize pZ 2000 ls at_ 0=a2 at *
    generalize qZ 2000 ls at_ 0=e2 at *
    have sx:IntKind.i64.wrap ((x:Int)+(size:Int))=((x+size:Nat):Int):=by rw[IntWalk.i64_in _ (by omega)];omega
    have HTT:Hid ((e2=0->∃f',n<=f'+(x+size)/\szR n size ls f' a2 (x+size) (acc++ [k])=Z)/\(e2≠0->Z.2.2=e2)):=⟨fun h=>⟨f,by omega,by rw[if_neg (by simp[h])]at hT;exact hT⟩,fun h=>by rw[if_pos h]at hT;rw[<-hT]⟩
    have HA2:Hid (∀y∈acc++ [k],y<=2000):=fun y hy=>by
     rcases List.mem_append.1 hy with h|h
     ·exact HA.out y h
     ·rw[List.mem_singleton]at h;omega
    have HQX2:Hid ((q+1)*size=x+size):=by show _=_;rw[Nat.succ_mul,HQX.out]
    clear hT HT hf HA HQX HXN
    go_wp2_with fail
    refine(D.out _ HC.out).mono ?_
    rintro e w4 ⟨rfl,hc4,hk4⟩
    have z4:=hk4.size
    have HC4:=hid hc4
    have HO4:Hid (w4.ownsRow w2.heap.size 3 1 (.slice va q vc) q (cZ .i64 acc)):=eZ HO.out (fun y hy=>hk4.block y ⟨(World.ownsRow.lt HO.out y hy).2,by have:=(World.ownsRow.lt HO.out y hy).1;omega⟩)
    have HK4:Hid (Kept (fun y=>y<w2.heap.size/\y≠g) w2 w4):=HK.out.trans ⟨hk4.os,hk4.tape,hk4.output,hk4.size,fun y hy=>hk4.block y ⟨by have:=hy.1;omega,hy.2⟩⟩
    clear hc4 hk4 HC HO HK D
    by_cases he:e2=0
    ·subst he
     have HT2:=hid (HTT.out.1 rfl)
     clear HTT
     go_wp2_with(at_builtin;refine kZ rfl (.tmp 45) (.tmp 48) 30 rfl w2.heap.size 3 j0 _ 1 8 Tryz.underlying30 hj0 hy0 hy1 hy2 rfl (by decide) _ _ _ (by rfl) (HO4.out.alloc _) _ 1 1 [.int .i64 (k:Nat)] (by rfl) (Src.of_blk (Blk.made_at _ _ _ (by simp)) 1 1 1 rfl) (by intro u hu;simp at hu;rcases hu with rfl;rfl) (by unfold maxLen;omega) (by omega) (by simp;omega) ?_;intro v5 w5 hown5 hg5 hat5;obtain⟨A5,c5,rfl⟩:=bZ hown5;have hc5:=eiZ (HC4.out.step (aZ (o:= .cells #[.int .i64 (k:Nat)] 3) (Below.refl w4.heap.size w4))) hg5 w2.heap.size (by omega) (fun y hy=>by have:=HCB.out y hy;omega) (fun(y:Nat) hy=>(World.ownsRow.lt HO4.out y hy).1);have HC5:=hid hc5;have pe5:=hc5.cells.2.2;clear hc5)
     have hgr:=fun(y:Nat) hy=>(World.ownsRow.lt HO4.out y hy).1
     have zk4:=HK4.out.size
     have HK5:Hid (Kept (fun y=>y<w2.heap.size/\y≠g) w2 w5):=(HK4.out.alloc (fun y hy=>by have:=hy.1;omega) _).grown hg5 (fun y hy=>by have:=hy.1;simp;omega) (fun y hy hh=>by have:=hgr y hy;have:=hh.1;omega)
     have HO5:Hid (w5.ownsRow w2.heap.size 3 1 (.slice A5 (q+1) c5) (q+1) (cZ .i64 (acc++ [k]))):=by
      show World.ownsRow _ _ _ _ _ _ _
      rw[show cZ .i64 (acc++ [k])=cZ .i64 acc++ [.int .i64 (k:Nat)] by simp[cZ]]
      exact hown5
     clear hown5 hg5 hat5 hgr HC4 HO4 HK4
     go_roundw
     case measure=>go_light;simp[intOf];omega
     case rel=>go_light;exact⟨x+size,a2,q+1,acc++ [k],by omega,by omega,by first|rfl|go_num,by show _=_;rw[List.length_append,HQ.out];rfl,HQX2.out,fun _=>by omega,HA2.out,HC5.out,HO5.out,HK5.out,HT2.out⟩
    ·have gE:(e2 != 0)=true:=by simpa using he
     have HR0:Hid (R=([],0,e2)):=by have h:=HR.out;rw[HTT.out.2 he,if_pos he]at h;exact h
     clear he HTT
     go_wp2_with(at_builtin;refine kZ rfl (.tmp 45) (.tmp 48) 30 rfl w2.heap.size 3 j0 _ 1 8 Tryz.underlying30 hj0 hy0 hy1 hy2 rfl (by decide) _ _ _ (by rfl) (HO4.out.alloc _) _ 1 1 [.int .i64 (k:Nat)] (by rfl) (Src.of_blk (Blk.made_at _ _ _ (by simp)) 1 1 1 rfl) (by intro u hu;simp at hu;rcases hu with rfl;rfl) (by unfold maxLen;omega) (by omega) (by simp;omega) ?_;intro v5 w5 hown5 hg5 hat5;obtain⟨A5,c5,rfl⟩:=bZ hown5;have hc5:=eiZ (HC4.out.step (aZ (o:= .cells #[.int .i64 (k:Nat)] 3) (Below.refl w4.heap.size w4))) hg5 w2.heap.size (by omega) (fun y hy=>by have:=HCB.out y hy;omega) (fun(y:Nat) hy=>(World.ownsRow.lt HO4.out y hy).1);have HC5:=hid hc5;have pe5:=hc5.cells.2.2;clear hc5)
     have hgr:=fun(y:Nat) hy=>(World.ownsRow.lt HO4.out y hy).1
     have zk4:=HK4.out.size
     have HK5:Hid (Kept (fun y=>y<w2.heap.size/\y≠g) w2 w5):=(HK4.out.alloc (fun y hy=>by have:=hy.1;omega) _).grown hg5 (fun y hy=>by have:=hy.1;simp;omega) (fun y hy hh=>by have:=hgr y hy;have:=hh.1;omega)
     have HO5:Hid (w5.ownsRow w2.heap.size 3 1 (.slice A5 (q+1) c5) (q+1) (cZ .i64 (acc++ [k]))):=by
      show World.ownsRow _ _ _ _ _ _ _
      rw[show cZ .i64 (acc++ [k])=cZ .i64 acc++ [.int .i64 (k:Nat)] by simp[cZ]]
      exact hown5
     clear hown5 hg5 hat5 hgr HC4 HO4 HK4
     have HBX:Hid (Below w.heap.size w w5):=HB2.out.trans (HK5.out.below fun b h=>⟨by omega,by omega⟩)
     clear HC5 HO5 HK5
     go_quiet (fail)
     go_wp2_with fail
     go_ret3
     exact hcZ HR0.out (below_drewN HBX.out _)
   ·have g1:decide ((x:Int)<(n:Int))=false:=by simp;omega
    have g1':decide (x<n)=false:=by simp;omega
    have HRF:Hid (R=bkR size ls (acc.drop 0) (n-0) at_ []):=by
     obtain⟨f,_,h2⟩:=HT.out
     rw[fzZ (by omega)]at h2
     have hr:=HR.out
     rw[<-h2]at hr
     rw[if_neg (show ¬((0:Int)≠0) from fun h=>h rfl)]at hr
     exact hr
    clear HT HR
    obtain⟨w3,rfl⟩:∃w3:World,w3=wr:=⟨_,rfl⟩
    have HB3:Hid (Below w.heap.size w w3):=HB2.out.trans (HK.out.below fun b h=>⟨by omega,by omega⟩)
    have HVB:Hid (∀y,(Value.slice va q vc).ownBlock=some y->w2.heap.size<=y/\y<w3.heap.size):=fun y hy=>World.ownsRow.lt HO.out y hy
    clear HK HB2
    go_wp2_with fail
    go_loopw [11,12] (fun ov iv wr=>∃ (i y at2 p:Nat) (ts:List Str),i<=q/\iv= .int .i64 i/\Hid (y=i*size)/\Hid (ts.length=p)/\Hid (p<=n)/\Hid (i<q->p=y)/\Hid (∀s∈ts,s.length<=25)/\Hid (RCur wr g w.heap.size ls B d at2 0)/\Hid (wr.ownsRow w3.heap.size 9 1 ov p (ccZ ts))/\Hid (Kept (fun z=>z<w3.heap.size/\z≠g) w3 wr)/\Hid (R=bkR size ls (acc.drop i) (n-y) at2 ts)) (fun _ iv _=>q-(intOf iv).toNat)
    case atStart=>exact⟨0,0,at_,0,[],by omega,rfl,by show _=_;omega,rfl,Nat.zero_le _,fun _=>rfl,fun s hs=>by simp at hs,HC.out,World.ownsRow_nil _ _ _ _,Kept.refl _ _,HRF.out⟩
    case round=>
     obtain⟨i,y,at2,p0,ts,hi,rfl,HY,HP0,HPN,HPY,HTS,HC3,HO3,HK3,HT⟩:=hrel
     obtain⟨Ao,co,rfl⟩:=bZ HO3.out
     clear HRF HC
     have zr:=HK3.out.size
     by_cases hiq:i<q
     ·have gi:decide ((i:Int)<(q:Int))=true:=by simp;omega
      have gi':decide (i<q)=true:=by simp;omega
      obtain rfl:p0=y:=HPY.out hiq
      have hyn:p0+size<=x:=by
       have h1:(i+1)*size<=q*size:=Nat.mul_le_mul_right size hiq
       rw[Nat.succ_mul,HQX.out,<-HY.out]at h1
       exact h1
      have hxn:=HXN.out (by omega)
      have hp0n:=HPN.out
      obtain⟨k0,hk0⟩:∃k,acc[i]? =some k:=⟨_,List.getElem?_eq_getElem (by have:=HQ.out;omega)⟩
      have hk02:=HA.out k0 (List.mem_of_getElem? hk0)
      have hdrop:acc.drop i=k0 :: acc.drop (i+1):=by
       obtain⟨hl,e⟩:=List.getElem?_eq_some_iff.1 hk0
       rw[List.drop_eq_getElem_cons hl,e]
      have HO2:Hid (wr.ownsRow w2.heap.size 3 1 (.slice va q vc) q (cZ .i64 acc)):=eZ HO.out (fun z hz=>HK3.out.block z ⟨(HVB.out z hz).2,by have:=(HVB.out z hz).1;omega⟩)
      obtain⟨gv,cv,hAv,hgv,_⟩:=HO2.out.form (by omega)
      injection hAv with q1 q2 q3
      subst q1 q3
      clear q2
      have ck:wr.cell? ⟨gv,i,none⟩=some (.int .i64 (k0:Nat)):=by
       rw[HO2.out.cellAt i (by omega)]
       unfold cZ
       rw[List.getElem?_map,hk0]
       rfl
      have x10:(0:Int)<=(i:Int):=by omega
      have x11:(i:Int)<(q:Int):=by omega
      have DT:=nhZ wr g w.heap.size ls B d at2 0 k0 HLE.out (by omega) HC3.out
      unfold ggZ at DT
      have hT:=HT.out
      rw[hdrop,bkR]at hT
      have hpl:=lfZb ls at2 0 k0
      have hp8:=wiZb H8.out at2 0 k0
      generalize fbZ ls at2 0 k0=part at *
      generalize takeA ls at2 0 k0=at4 at *
      generalize gbZ ls at2 0 k0=e4 at *
      have DT:=hid DT
      have HTT:=hid hT
      have HP8:=hid hp8
      have hple:part.length<=100000:=by have:=HLE.out;omega
      clear hT HT hk0 hdrop hp8 hpl HO2
      obtain⟨w3r,rfl⟩:∃w3r:World,w3r=wr:=⟨_,rfl⟩
      obtain⟨pm,hpm⟩:∃pm,pm=part.length:=⟨_,rfl⟩
      rw[<-hpm]at DT hple
      have HPM:=hid hpm
      clear hpm
      go_wp2_with fail
      refine DT.out.mono ?_
      rintro e w4 ⟨v4,rfl,hown4,hc4,hk4⟩
      obtain⟨A4,c4,rfl⟩:=bZ hown4
      have z4:=hk4.size
      have HC4:=hid hc4
      have pe4:=hc4.cells.2.2
      have HO4:Hid (w4.ownsRow w3.heap.size 9 1 (.slice Ao p0 co) p0 (ccZ ts)):=eZ HO3.out (fun z hz=>hk4.block z ⟨(World.ownsRow.lt HO3.out z hz).2,by have:=(World.ownsRow.lt HO3.out z hz).1;omega⟩)
      have HK4:Hid (Kept (fun z=>z<w3.heap.size/\z≠g) w3 w4):=HK3.out.trans ⟨hk4.os,hk4.tape,hk4.output,hk4.size,fun z hz=>hk4.block z ⟨by have:=hz.1;omega,hz.2⟩⟩
      have HBX:Hid (Below w.heap.size w w4):=HB3.out.trans (HK4.out.below fun b h=>⟨by omega,by omega⟩)
      have HOP:=hid hown4
      clear hown4 hc4 hk4 HC3 HO3 HK3 DT ck
      by_cases he4:e4=0
      ·subst he4
       have hT:=HTT.out
       rw[if_neg (show ¬((0:Int)≠0) from fun h=>h rfl)]at hT
       obtain⟨mn,hmn⟩:∃mn,mn=min size (n-p0):=⟨_,rfl⟩
       rw[<-hmn]at hT
       obtain⟨F,hF⟩:∃F,F=ncZ part mn true 0 ts:=⟨_,rfl⟩
       rw[<-hF]at hT
       have HRE:Hid (∀er:Int,F=([],er)->er≠0->R=([],0,er)):=fun er h he=>by rw[hT,h,if_pos he]
       have HRE2:Hid (∀er:Int,F.2=er->er≠0->R=([],0,er)):=fun er h he=>by rw[hT,h,if_pos he]
       have HRO:Hid (F.2=0->R=bkR size ls (acc.drop (i+1)) (n-p0-size) at4 F.1):=fun h=>by rw[hT,if_neg (fun h2=>h2 h)]
       have HF:=hid hF
       have HMN:=hid hmn
       have HNX:Hid (i+1<q->p0+size<n):=fun h=>by
        have h1:(i+2)*size<=q*size:=Nat.mul_le_mul_right size h
        rw[Nat.add_mul,HQX.out,<-HY.out]at h1
        omega
       have hmn1:mn<=size:=by omega
       have hmn2:mn<=n-p0:=by omega
       have HO5:Hid (Row w4 w4.heap.size A4 pm 1 (mZ .u8 part)):=by
        have h:=HOP.out
        rw[HPM.out]at h
        have h2:=own_row h
        rw[<-HPM.out]at h2
        exact h2
       have DN:=hid (rnew_any w4 A4 pm c4 part HPM.out.symm hple (fhZ HOP.out) HO5.out)
       clear hT HTT hF HOP HO5 hmn
       go_wp2_with fail
       refine DN.out.mono ?_
       rintro e w5 ⟨g5,B5,d5,rfl,hc5,hb5⟩
       have z5:=hb5.size
       have hg5lo:=hc5.lo
       have HC5:=hid hc5
       have HO5:Hid (w5.ownsRow w3.heap.size 9 1 (.slice Ao p0 co) p0 (ccZ ts)):=eZ HO4.out (fun z hz=>hb5.block z (World.ownsRow.lt HO4.out z hz).2)
       have HK5:Hid (Kept (fun z=>z<w3.heap.size/\z≠g) w3 w5):=HK4.out.trans (Kept.of_below hb5 (fun z hz=>by have:=hz.1;omega))
       have HCC:Hid (RCur w5 g w.heap.size ls B d at4 0):=HC4.out.step hb5
       obtain⟨w6,rfl⟩:∃w6:World,w6=w5:=⟨_,rfl⟩
       have HB6:Hid (Below w.heap.size w w6):=HBX.out.trans (hb5.mono (by have:=HBX.out.size;omega))
       clear hc5 hb5 DN HC4 HO4 HK4 HBX pe4
       go_wp2_with fail
       go_loopw [11,15] (fun ov kv wr=>∃ (k at3 p:Nat) (t2:List Str),k<=mn/\p=p0+k/\kv= .int .i64 k/\Hid (t2.length=p)/\Hid (RCur wr g5 w4.heap.size part B5 d5 at3 0)/\Hid (wr.ownsRow w3.heap.size 9 1 ov p (ccZ t2))/\Hid (Kept (fun z=>z<w3.heap.size) w6 wr)/\Hid (∀s∈t2,s.length<=25)/\Hid (ncZ part (mn-k) (decide (k=0)) at3 t2=F)) (fun _ kv _=>mn-(intOf kv).toNat)
       case atStart=>exact⟨0,0,p0,ts,by omega,by omega,rfl,HP0.out,HC5.out,HO5.out,Kept.refl _ _,HTS.out,HF.out.symm⟩
       case round=>
        obtain⟨k,at3,p,t2,hk,hpk,rfl,HP,HC7,HO7,HK7,HS2,HG⟩:=hrel
        have hpk1:p<=p0+k:=by omega
        have hpk2:p0+k<=p:=by omega
        clear hpk
        obtain⟨Au,cu,rfl⟩:=bZ HO7.out
        clear HC5 HO5 HF
        have z7:=HK7.out.size
        by_cases hkm:k<mn
        ·have gk:decide ((k:Int)<(size:Int))=true:=by simp;omega
         have gk':decide (k<size)=true:=by simp;omega
         have gp:decide ((p:Int)<(n:Int))=true:=by simp;omega
         have gp':decide (p<n)=true:=by simp;omega
         have hG:=HG.out
         rw[show mn-k=(mn-(k+1))+1 by omega,ncZ]at hG
         obtain⟨fb,hfb⟩:∃fb,fb=decide (k=0):=⟨_,rfl⟩
         obtain⟨was,hwas⟩:∃was,was=t2.getLast?.getD []:=⟨_,rfl⟩
         have hwl:was.length<=25:=by
          rw[hwas]
          cases hl:t2.getLast? with
          |none=>exact Nat.zero_le _
          |some y=>exact HS2.out y (List.mem_of_getLast? hl)
         rw[<-hfb,<-hwas]at hG
         unfold bfZ at hG
         have DIN:=hid (fun wx hx=>qfZ wx g5 w4.heap.size part B5 d5 at3 0 was.length (by have:=HPM.out;omega) HP8.out (by omega) hx)
         have hnx:nxN part was fb at3<=was.length:=by
          unfold nxN
          split
          ·exact Nat.zero_le _
          ·exact qbZ HP8.out _ _
         have HN:Hid ((fb=true->nxN part was fb at3=0/\nxA part was fb at3=at3/\nxE part was fb at3=0)/\(fb=false->nxN part was fb at3=tZ was.length part at3 0/\nxA part was fb at3=pZ was.length part at3 0/\nxE part was fb at3=qZ was.length part at3 0)):=by
          constructor
          ·intro hf;rw[hf];exact⟨rfl,rfl,rfl⟩
          ·intro hf;rw[hf];exact⟨rfl,rfl,rfl⟩
         generalize nxN part was fb at3=mm at *
         generalize nxA part was fb at3=a1 at *
         generalize nxE part was fb at3=e1 at *
         have DTX:=hid (fun wx hx=>maZb wx g5 w4.heap.size part B5 d5 a1 e1 25 (by have:=HPM.out;omega) HP8.out (by omega) hx)
         have htl:=wvZ (most:=25) HP8.out a1 e1
         rw[udZb]at DTX
         obtain⟨t,ht⟩:∃t,t=toS (afZ 25 part a1 e1):=⟨_,rfl⟩
         have htz:t.length<=25:=by rw[ht];unfold toS;rw[List.length_map];exact htl
         rw[<-ht]at DTX hG
         generalize ahZ 25 part a1 e1=a2 at *
         generalize bhZ 25 part a1 e1=e2 at *
         obtain⟨s,hs⟩:∃s,s=was.take mm++t:=⟨_,rfl⟩
         unfold nxS at hG
         rw[<-hs]at hG
         have HGG:=hid hG
         have HS:=hid hs
         have hth:(was.take mm).length<=25:=by rw[List.length_take];omega
         have hsl:s.length<=50:=by rw[hs,List.length_append];omega
         have HBB:Hid (bs (was.take mm)++bs t=bs s):=by show _=_;rw[vvZ,hs]
         have HT:Hid ((t= []->((bs t).toList==({data:=#[] }:ByteArray).toList)=true/\((bs t).toList== [])=true/\(bs t).toList.isEmpty=true/\(bs t).toList= [])/\(t≠ []->((bs t).toList==({data:=#[] }:ByteArray).toList)=false/\((bs t).toList== [])=false/\(bs t).toList.isEmpty=false/\¬(bs t).toList= [])):=⟨fun h=>by rw[h];exact tuZ,fun h=>hpZ t h⟩
         have zt:=xbZ t
         have zs:=xbZ s
         have zw:=xbZ was
         obtain⟨sl,hsl2⟩:∃x,x=s.length:=⟨_,rfl⟩
         obtain⟨tl,htl2⟩:∃x,x=t.length:=⟨_,rfl⟩
         have KH:=fun wx=>spZ was mm hnx wx
         have HHD:Hid (mm=0->was.take mm= []):=fun h=>by rw[h];rfl
         have DAL:=hid (fun wx=>caZb wx was s (by omega) (by omega))
         have zh:=xbZ (was.take mm)
         generalize was.take mm=hd at *
         obtain⟨hl,hhl⟩:∃x,x=hd.length:=⟨_,rfl⟩
         obtain⟨wl,hwl2⟩:∃x,x=was.length:=⟨_,rfl⟩
         rw[<-hsl2]at zs hsl
         rw[<-htl2]at zt htz
         rw[<-hhl]at zh hth
         have HSLN:=hid hsl2
         have HWAS:=hid hwas
         have HFB:=hid hfb
         clear hG HG hs htl ht hfb hwas hsl2 htl2 hhl
         have HBX0:Hid (Below w.heap.size w wr):=HB6.out.trans (HK7.out.below fun b h=>by omega)
         by_cases hp0:p=0
         ·have hk00:k=0:=by omega
          have gpz:decide ((0:Int)<(p:Int))=false:=by simp;omega
          have gpz':decide (0<p)=false:=by simp;omega
          have gkz:decide ((0:Int)<(k:Int))=false:=by simp;omega
          have gkz':decide (0<k)=false:=by simp;omega
          have HWN:Hid (was= []):=by show _=_;rw[HWAS.out,List.eq_nil_of_length_eq_zero (HP.out.trans hp0)];rfl
          have HFT:Hid (fb=true):=by show _=_;rw[HFB.out,decide_eq_true hk00]
          obtain⟨q1,q2,q3⟩:=HN.out.1 HFT.out
          have hhd:=HHD.out q1
          have KH0:∀wx,(Instr.slice 9 (.string ⟨#[]⟩) none (some (.int .i64 0)) none).run Tryz.prog wx= .ok (.string ⟨#[]⟩) wx:=fun wx=>spZ [] 0 (Nat.zero_le _) wx
          have hst:s=t:=by rw[HS.out,hhd];rfl
          have hts:bs t=bs s:=by rw[hst]
          have hna:(({data:=#[] }:ByteArray))++bs t=bs s:=by rw[sbZb,hts]
          have HCX:Hid (RCur wr g5 w4.heap.size part B5 d5 a1 e1):=by rw[q2,q3];exact HC7.out
          have HKX:=HK7
          have HOX:=HO7
          clear hp0 hk00 q1 q2 q3 HN hhd KH HBB HHD DIN hst hts zh DAL zw HC7 HK7 HO7 hnx
          have zx:=HKX.out.size
          go_wp2_with fail
          refine(DTX.out _ HCX.out).mono ?_
          rintro e w8 ⟨rfl,hc8,hk8⟩
          have z8:=hk8.size
          have HC8:=hid hc8
          have HK8:Hid (Kept (fun z=>z<w3.heap.size) w6 w8):=HKX.out.trans ⟨hk8.os,hk8.tape,hk8.output,hk8.size,fun z hz=>hk8.block z ⟨by omega,by omega⟩⟩
          have HO8:=hid (eZ (w':=w8) HOX.out (fun z hz=>hk8.block z ⟨(World.ownsRow.lt HOX.out z hz).2,fun e=>jZ HOX.out HCX.out.blk (by decide) (e ▸ hz)⟩))
          have HBX:Hid (Below w.heap.size w w8):=HB6.out.trans (HK8.out.below fun b h=>by omega)
          have px:=HC8.out.cells.2.2
          clear hc8 hk8 HCX HKX HOX
          by_cases he:e2=0
          ·skip
           subst he
           by_cases ht:t= []
           ·obtain⟨b1,b2,b3,b4⟩:=HT.out.1 ht
            have HNB:Hid (t= []∨dcZ was s=false∨(fb=false/\zZ was s≠mm)):= .inl ht
            clear ht HT
            have HR0:Hid (R=([],0,2)):=by
             have h:=HGG.out
             rw[if_neg (show ¬((0:Int)≠0) from fun h=>h rfl),if_pos HNB.out]at h
             simp only at h
             rw[if_pos (show(2:Int)≠0 by decide)]at h
             exact HRE.out 2 h.symm (by decide)
            clear HGG HNB
            go_wp2_with fail
            go_ret3
            exact hcZ HR0.out HBX.out
           ·obtain⟨b1,b2,b3,b4⟩:=HT.out.2 ht
            have HTN:=hid ht
            clear ht HT
            by_cases hs25:25<sl
            ·have g25:decide ((25:Int)<(sl:Int))=true:=by simp;omega
             have g25':decide (25<sl)=true:=by simp;omega
             have HNB:Hid (t= []∨dcZ was s=false∨(fb=false/\zZ was s≠mm)):= .inr (.inl (by unfold dcZ;rw[decide_eq_false (show ¬s.length<=25 by have:=HSLN.out;omega)];simp))
             clear hs25
             have HR0:Hid (R=([],0,2)):=by
              have h:=HGG.out
              rw[if_neg (show ¬((0:Int)≠0) from fun h=>h rfl),if_pos HNB.out]at h
              simp only at h
              rw[if_pos (show(2:Int)≠0 by decide)]at h
              exact HRE.out 2 h.symm (by decide)
             clear HGG HNB
             go_wp2_with fail
             go_ret3
             exact hcZ HR0.out HBX.out
            ·have g25:decide ((25:Int)<(sl:Int))=false:=by simp;omega
             have g25':decide (25<sl)=false:=by simp;omega
             have HSL:Hid (s.length<=25):=by show _<=_;have:=HSLN.out;omega
             have HS1:Hid (1<=s.length):=by
              show _<=_
              have h1:t.length≠0:=fun h=>HTN.out (List.eq_nil_of_length_eq_zero h)
              rw[HS.out,List.length_append]
              omega
             clear hs25
             have HNN:Hid (¬(t= []∨dcZ was s=false∨(fb=false/\zZ was s≠mm))):=fun h=>by
              rcases h with h|h|h
              ·exact HTN.out h
              ·have h1:s≠ []:=fun h=>by have:=HS1.out;rw[h]at this;simp at this
               have h2:dcZ was s=true:=by
                unfold dcZ
                rw[decide_eq_true HSL.out,decide_eq_true HS1.out,HWN.out]
                cases s with
                |nil=>exact absurd rfl h1
                |cons x xs=>simp
               rw[h2]at h;cases h
              ·exact absurd (HFT.out.symm.trans h.1) (by decide)
             have HG2:Hid (ncZ part (mn-(k+1)) (decide (k+1=0)) a2 (t2++ [s])=F):=by
              show _=_
              have h:=HGG.out
              rw[if_neg (show ¬((0:Int)≠0) from fun h=>h rfl),if_neg HNN.out]at h
              simp only at h
              rw[if_neg (show ¬((0:Int)≠0) from fun h=>h rfl)]at h
              rw[decide_eq_false (by omega)]
              exact h
             clear HGG HNN
             go_wp2_with(at_builtin;refine kZ rfl (.tmp 152) (.tmp 154) 33 rfl w3.heap.size 9 j1 _ 1 16 Tryz.underlying33 hj1 hx0 hx1 hx2 rfl (by decide) _ _ _ (by rfl) (HO8.out.alloc _) _ 1 1 [.string (bs s)] (by rfl) (Src.of_blk (Blk.made_at _ _ _ (by simp)) 1 1 1 rfl) (by intro u hu;simp at hu;rcases hu with rfl;rfl) (by unfold maxLen;omega) (by omega) (by simp;omega) ?_;intro v9 w9 hown9 hg9 hat9;obtain⟨A9,c9,rfl⟩:=bZ hown9)
             have hgr:=fun(y:Nat) hy=>(World.ownsRow.lt HO8.out y hy).1
             have hc9:RCur w9 g5 w4.heap.size part B5 d5 a2 0:=⟨(HC8.out.blk.alloc (.cells #[.string (bs s)] 9)).grown hg9 (Ne.symm (jZ (HO8.out.alloc (.cells #[.string (bs s)] 9)) (HC8.out.blk.alloc (.cells #[.string (bs s)] 9)) (by decide))),own_far (HC8.out.own.alloc (.cells #[.string (bs s)] 9)) (HO8.out.alloc (.cells #[.string (bs s)] 9)) (by decide) hg9,HC8.out.le,HC8.out.lo⟩
             have HC9:=hid hc9
             have HK9:Hid (Kept (fun z=>z<w3.heap.size) w6 w9):=(HK8.out.alloc (fun z hz=>by omega) _).grown hg9 (fun z hz=>by simp;omega) (fun z hz hh=>by have:=hgr z hz;omega)
             have HO9:Hid (w9.ownsRow w3.heap.size 9 1 (.slice A9 (p+1) c9) (p+1) (ccZ (t2++ [s]))):=by
              show World.ownsRow _ _ _ _ _ _ _
              rw[jiZ]
              exact hown9
             clear hown9 hg9 hat9 hgr hc9 HC8 HK8 HO8
             go_roundw
             case measure=>go_light;simp[intOf];omega
             case rel=>go_light;exact⟨k+1,a2,p+1,t2++ [s],by omega,by omega,by first|rfl|go_num,by show _=_;rw[List.length_append,HP.out];rfl,HC9.out,HO9.out,HK9.out,by intro z hz;rcases List.mem_append.1 hz with h|h;exact HS2.out z h;(rw[List.mem_singleton]at h;rw[h];exact HSL.out),HG2.out⟩
          ·have gE:(e2 != 0)=true:=by simpa using he
           have HR0:Hid (R=([],0,e2)):=by have h:=HGG.out;rw[if_pos he]at h;simp only at h;rw[if_pos he]at h;exact HRE.out e2 h.symm he
           clear he HGG
           go_wp2_with fail
           go_quiet (fail)
           go_wp2_with fail
           go_ret3
           exact hcZ HR0.out (below_drewN HBX.out _)
         ·obtain⟨gq,cq,hAq,hgq,_⟩:=HO7.out.form (by omega)
          injection hAq with q1 q2 q3
          subst q1 q3
          clear q2
          have hyl:t2[p-1]? =some was:=by
           have h:=HWAS.out
           rw[List.getLast?_eq_getElem?,HP.out,List.getElem?_eq_getElem (by have:=HP.out;omega)]at h
           rw[List.getElem?_eq_getElem (by have:=HP.out;omega),h]
           rfl
          have cy:wr.cell? ⟨gq,p-1,none⟩=some (.string (bs was)):=by rw[HO7.out.cellAt (p-1) (by omega)];exact llZ hyl
          obtain⟨p1,hp1⟩:∃p1,p1=p-1:=⟨_,rfl⟩
          rw[<-hp1]at cy
          have sp:IntKind.i64.wrap ((p:Int)-1)=(p1:Int):=by rw[IntWalk.i64_in _ (by omega)];omega
          have gpz:decide ((0:Int)<(p:Int))=true:=by simp;omega
          have gpz':decide (0<p)=true:=by simp;omega
          have x20:(0:Int)<=(p1:Int):=by omega
          have x21:(p1:Int)<(p:Int):=by omega
          have hbb:=HBB.out
          clear hyl hp1 hp0 HBB
          by_cases hk00:k=0
          ·have gkz:decide ((0:Int)<(k:Int))=false:=by simp;omega
           have gkz':decide (0<k)=false:=by simp;omega
           have HFT:Hid (fb=true):=by show _=_;rw[HFB.out,decide_eq_true hk00]
           obtain⟨q1,q2,q3⟩:=HN.out.1 HFT.out
           have KH0:∀wx,(Instr.slice 9 (.string (bs was)) none (some (.int .i64 0)) none).run Tryz.prog wx= .ok (.string (bs hd)) wx:=by
            have h:=KH
            rw[q1]at h
            exact h
           have HCX:Hid (RCur wr g5 w4.heap.size part B5 d5 a1 e1):=by rw[q2,q3];exact HC7.out
           have HKX:=HK7
           have HOX:=HO7
           clear hk00 q1 q2 q3 HN KH HHD DIN DAL HC7 HK7 HO7 hnx
           have zx:=HKX.out.size
           go_wp2_with fail
           refine(DTX.out _ HCX.out).mono ?_
           rintro e w8 ⟨rfl,hc8,hk8⟩
           have z8:=hk8.size
           have HC8:=hid hc8
           have HK8:Hid (Kept (fun z=>z<w3.heap.size) w6 w8):=HKX.out.trans ⟨hk8.os,hk8.tape,hk8.output,hk8.size,fun z hz=>hk8.block z ⟨by omega,by omega⟩⟩
           have HO8:=hid (eZ (w':=w8) HOX.out (fun z hz=>hk8.block z ⟨(World.ownsRow.lt HOX.out z hz).2,fun e=>jZ HOX.out HCX.out.blk (by decide) (e ▸ hz)⟩))
           have HBX:Hid (Below w.heap.size w w8):=HB6.out.trans (HK8.out.below fun b h=>by omega)
           have px:=HC8.out.cells.2.2
           clear hc8 hk8 HCX HKX HOX
           by_cases he:e2=0
           ·skip
            subst he
            by_cases ht:t= []
            ·obtain⟨b1,b2,b3,b4⟩:=HT.out.1 ht
             have HNB:Hid (t= []∨dcZ was s=false∨(fb=false/\zZ was s≠mm)):= .inl ht
             clear ht HT
             have HR0:Hid (R=([],0,2)):=by
              have h:=HGG.out
              rw[if_neg (show ¬((0:Int)≠0) from fun h=>h rfl),if_pos HNB.out]at h
              simp only at h
              rw[if_pos (show(2:Int)≠0 by decide)]at h
              exact HRE.out 2 h.symm (by decide)
             clear HGG HNB
             go_wp2_with fail
             go_ret3
             exact hcZ HR0.out HBX.out
            ·obtain⟨b1,b2,b3,b4⟩:=HT.out.2 ht
             have HTN:=hid ht
             clear ht HT
             by_cases hs25:25<sl
             ·have g25:decide ((25:Int)<(sl:Int))=true:=by simp;omega
              have g25':decide (25<sl)=true:=by simp;omega
              have HNB:Hid (t= []∨dcZ was s=false∨(fb=false/\zZ was s≠mm)):= .inr (.inl (by unfold dcZ;rw[decide_eq_false (show ¬s.length<=25 by have:=HSLN.out;omega)];simp))
              clear hs25
              have HR0:Hid (R=([],0,2)):=by
               have h:=HGG.out
               rw[if_neg (show ¬((0:Int)≠0) from fun h=>h rfl),if_pos HNB.out]at h
               simp only at h
               rw[if_pos (show(2:Int)≠0 by decide)]at h
               exact HRE.out 2 h.symm (by decide)
              clear HGG HNB
              go_wp2_with fail
              go_ret3
              exact hcZ HR0.out HBX.out
             ·have g25:decide ((25:Int)<(sl:Int))=false:=by simp;omega
              have g25':decide (25<sl)=false:=by simp;omega
              have HSL:Hid (s.length<=25):=by show _<=_;have:=HSLN.out;omega
              have HS1:Hid (1<=s.length):=by
               show _<=_
               have h1:t.length≠0:=fun h=>HTN.out (List.eq_nil_of_length_eq_zero h)
               rw[HS.out,List.length_append]
               omega
              clear hs25
              have DLE:=fun(P:Program) (tt:TypeId) wx=>ryZ P tt s was wx
              by_cases hlt:was<s
              ·have HNN:Hid (¬(t= []∨dcZ was s=false∨(fb=false/\zZ was s≠mm))):=fun h=>by
                rcases h with h|h|h
                ·exact HTN.out h
                ·have h2:dcZ was s=true:=by unfold dcZ;rw[decide_eq_true HSL.out,decide_eq_true HS1.out,decide_eq_true hlt];rfl
                 rw[h2]at h;cases h
                ·exact absurd (HFT.out.symm.trans h.1) (by decide)
               simp only[decide_eq_true hlt,Bool.not_true]at DLE
               clear hlt
               have HG2:Hid (ncZ part (mn-(k+1)) (decide (k+1=0)) a2 (t2++ [s])=F):=by
                show _=_
                have h:=HGG.out
                rw[if_neg (show ¬((0:Int)≠0) from fun h=>h rfl),if_neg HNN.out]at h
                simp only at h
                rw[if_neg (show ¬((0:Int)≠0) from fun h=>h rfl)]at h
                rw[decide_eq_false (by omega)]
                exact h
               clear HGG HNN
               go_wp2_with(at_builtin;refine kZ rfl (.tmp 152) (.tmp 154) 33 rfl w3.heap.size 9 j1 _ 1 16 Tryz.underlying33 hj1 hx0 hx1 hx2 rfl (by decide) _ _ _ (by rfl) (HO8.out.alloc _) _ 1 1 [.string (bs s)] (by rfl) (Src.of_blk (Blk.made_at _ _ _ (by simp)) 1 1 1 rfl) (by intro u hu;simp at hu;rcases hu with rfl;rfl) (by unfold maxLen;omega) (by omega) (by simp;omega) ?_;intro v9 w9 hown9 hg9 hat9;obtain⟨A9,c9,rfl⟩:=bZ hown9)
               have hgr:=fun(y:Nat) hy=>(World.ownsRow.lt HO8.out y hy).1
               have hc9:RCur w9 g5 w4.heap.size part B5 d5 a2 0:=⟨(HC8.out.blk.alloc (.cells #[.string (bs s)] 9)).grown hg9 (Ne.symm (jZ (HO8.out.alloc (.cells #[.string (bs s)] 9)) (HC8.out.blk.alloc (.cells #[.string (bs s)] 9)) (by decide))),own_far (HC8.out.own.alloc (.cells #[.string (bs s)] 9)) (HO8.out.alloc (.cells #[.string (bs s)] 9)) (by decide) hg9,HC8.out.le,HC8.out.lo⟩
               have HC9:=hid hc9
               have HK9:Hid (Kept (fun z=>z<w3.heap.size) w6 w9):=(HK8.out.alloc (fun z hz=>by omega) _).grown hg9 (fun z hz=>by simp;omega) (fun z hz hh=>by have:=hgr z hz;omega)
               have HO9:Hid (w9.ownsRow w3.heap.size 9 1 (.slice A9 (p+1) c9) (p+1) (ccZ (t2++ [s]))):=by
                show World.ownsRow _ _ _ _ _ _ _
                rw[jiZ]
                exact hown9
               clear hown9 hg9 hat9 hgr hc9 HC8 HK8 HO8
               go_roundw
               case measure=>go_light;simp[intOf];omega
               case rel=>go_light;exact⟨k+1,a2,p+1,t2++ [s],by omega,by omega,by first|rfl|go_num,by show _=_;rw[List.length_append,HP.out];rfl,HC9.out,HO9.out,HK9.out,by intro z hz;rcases List.mem_append.1 hz with h|h;exact HS2.out z h;(rw[List.mem_singleton]at h;rw[h];exact HSL.out),HG2.out⟩
              ·have HNB:Hid (t= []∨dcZ was s=false∨(fb=false/\zZ was s≠mm)):= .inr (.inl (by unfold dcZ;rw[decide_eq_false hlt];simp))
               simp only[decide_eq_false hlt,Bool.not_false]at DLE
               clear hlt
               have HR0:Hid (R=([],0,2)):=by
                have h:=HGG.out
                rw[if_neg (show ¬((0:Int)≠0) from fun h=>h rfl),if_pos HNB.out]at h
                simp only at h
                rw[if_pos (show(2:Int)≠0 by decide)]at h
                exact HRE.out 2 h.symm (by decide)
               clear HGG HNB
               go_wp2_with fail
               go_ret3
               exact hcZ HR0.out HBX.out
           ·have gE:(e2 != 0)=true:=by simpa using he
            have HR0:Hid (R=([],0,e2)):=by have h:=HGG.out;rw[if_pos he]at h;simp only at h;rw[if_pos he]at h;exact HRE.out e2 h.symm he
            clear he HGG
            go_wp2_with fail
            go_quiet (fail)
            go_wp2_with fail
            go_ret3
            exact hcZ HR0.out (below_drewN HBX.out _)
          ·have gkz:decide ((0:Int)<(k:Int))=true:=by simp;omega
           have gkz':decide (0<k)=true:=by simp;omega
           have HFT:Hid (fb=false):=by show _=_;rw[HFB.out,decide_eq_false hk00]
           obtain⟨q1,q2,q3⟩:=HN.out.2 HFT.out
           rw[<-q1,<-q2,<-q3,<-hwl2]at DIN
           have zw2:=zw
           rw[<-hwl2]at zw2
           clear hk00 HN HHD zw hwl2 q1 q2 q3
           go_wp2_with fail
           refine(DIN.out _ HC7.out).mono ?_
           rintro e w7 ⟨rfl,hc7,hk7⟩
           have HCX:=hid hc7
           have HKX:Hid (Kept (fun z=>z<w3.heap.size) w6 w7):=HK7.out.trans ⟨hk7.os,hk7.tape,hk7.output,hk7.size,fun z hz=>hk7.block z ⟨by omega,by omega⟩⟩
           have HOX:=hid (eZ (w':=w7) HO7.out (fun z hz=>hk7.block z ⟨(World.ownsRow.lt HO7.out z hz).2,fun e=>jZ HO7.out HC7.out.blk (by decide) (e ▸ hz)⟩))
           clear hc7 hk7 HC7 HK7 HO7 DIN cy
           have zx:=HKX.out.size
           go_wp2_with fail
           refine(DTX.out _ HCX.out).mono ?_
           rintro e w8 ⟨rfl,hc8,hk8⟩
           have z8:=hk8.size
           have HC8:=hid hc8
           have HK8:Hid (Kept (fun z=>z<w3.heap.size) w6 w8):=HKX.out.trans ⟨hk8.os,hk8.tape,hk8.output,hk8.size,fun z hz=>hk8.block z ⟨by omega,by omega⟩⟩
           have HO8:=hid (eZ (w':=w8) HOX.out (fun z hz=>hk8.block z ⟨(World.ownsRow.lt HOX.out z hz).2,fun e=>jZ HOX.out HCX.out.blk (by decide) (e ▸ hz)⟩))
           have HBX:Hid (Below w.heap.size w w8):=HB6.out.trans (HK8.out.below fun b h=>by omega)
           have px:=HC8.out.cells.2.2
           clear hc8 hk8 HCX HKX HOX
           by_cases he:e2=0
           ·skip
            subst he
            by_cases ht:t= []
            ·obtain⟨b1,b2,b3,b4⟩:=HT.out.1 ht
             have HNB:Hid (t= []∨dcZ was s=false∨(fb=false/\zZ was s≠mm)):= .inl ht
             clear ht HT
             have HR0:Hid (R=([],0,2)):=by
              have h:=HGG.out
              rw[if_neg (show ¬((0:Int)≠0) from fun h=>h rfl),if_pos HNB.out]at h
              simp only at h
              rw[if_pos (show(2:Int)≠0 by decide)]at h
              exact HRE.out 2 h.symm (by decide)
             clear HGG HNB
             go_wp2_with fail
             go_ret3
             exact hcZ HR0.out HBX.out
            ·obtain⟨b1,b2,b3,b4⟩:=HT.out.2 ht
             have HTN:=hid ht
             clear ht HT
             by_cases hs25:25<sl
             ·have g25:decide ((25:Int)<(sl:Int))=true:=by simp;omega
              have g25':decide (25<sl)=true:=by simp;omega
              have HNB:Hid (t= []∨dcZ was s=false∨(fb=false/\zZ was s≠mm)):= .inr (.inl (by unfold dcZ;rw[decide_eq_false (show ¬s.length<=25 by have:=HSLN.out;omega)];simp))
              clear hs25
              have HR0:Hid (R=([],0,2)):=by
               have h:=HGG.out
               rw[if_neg (show ¬((0:Int)≠0) from fun h=>h rfl),if_pos HNB.out]at h
               simp only at h
               rw[if_pos (show(2:Int)≠0 by decide)]at h
               exact HRE.out 2 h.symm (by decide)
              clear HGG HNB
              go_wp2_with fail
              go_ret3
              exact hcZ HR0.out HBX.out
             ·have g25:decide ((25:Int)<(sl:Int))=false:=by simp;omega
              have g25':decide (25<sl)=false:=by simp;omega
              have HSL:Hid (s.length<=25):=by show _<=_;have:=HSLN.out;omega
              have HS1:Hid (1<=s.length):=by
               show _<=_
               have h1:t.length≠0:=fun h=>HTN.out (List.eq_nil_of_length_eq_zero h)
               rw[HS.out,List.length_append]
               omega
              clear hs25
              have DLE:=fun(P:Program) (tt:TypeId) wx=>ryZ P tt s was wx
              by_cases hlt:was<s
              ·have HLT:=hid hlt
               simp only[decide_eq_true hlt,Bool.not_true]at DLE
               clear hlt
               obtain⟨al,hal0⟩:∃al,al=zZ was s:=⟨_,rfl⟩
               have DAK:=DAL
               rw[<-hal0]at DAK
               have HAL:=hid hal0
               clear hal0
               by_cases hal:al=mm
               ·have gal:((al:Int) != (mm:Int))=false:=by rw[hal];simp
                have HNN:Hid (¬(t= []∨dcZ was s=false∨(fb=false/\zZ was s≠mm))):=fun h=>by
                 rcases h with h|h|h
                 ·exact HTN.out h
                 ·have h2:dcZ was s=true:=by unfold dcZ;rw[decide_eq_true HSL.out,decide_eq_true HS1.out,decide_eq_true HLT.out];rfl
                  rw[h2]at h;cases h
                 ·exact h.2 (HAL.out.symm.trans hal)
                clear hal DAL
                go_wp2_with fail
                refine(DAK.out _).mono ?_
                rintro e w8a ⟨rfl,q8,rfl⟩
                have HC8b:=hid (HC8.out.drewN q8)
                have HK8b:=hid (HK8.out.drewN q8)
                have HO8b:=hid (eZ (w':=w8.drewN q8) HO8.out (fun y _=>rfl))
                have HBXb:=hid (below_drewN HBX.out q8)
                have z8b:w8.heap.size<=(w8.drewN q8).heap.size:=Nat.le_refl _
                clear HC8 HK8 HO8 HBX DAK
                generalize w8.drewN q8=w8d at *
                have HC8:=HC8b
                have HK8:=HK8b
                have HO8:=HO8b
                have HBX:=HBXb
                clear HC8b HK8b HO8b HBXb
                have HG2:Hid (ncZ part (mn-(k+1)) (decide (k+1=0)) a2 (t2++ [s])=F):=by
                 show _=_
                 have h:=HGG.out
                 rw[if_neg (show ¬((0:Int)≠0) from fun h=>h rfl),if_neg HNN.out]at h
                 simp only at h
                 rw[if_neg (show ¬((0:Int)≠0) from fun h=>h rfl)]at h
                 rw[decide_eq_false (by omega)]
                 exact h
                clear HGG HNN
                go_wp2_with(at_builtin;refine kZ rfl (.tmp 152) (.tmp 154) 33 rfl w3.heap.size 9 j1 _ 1 16 Tryz.underlying33 hj1 hx0 hx1 hx2 rfl (by decide) _ _ _ (by rfl) (HO8.out.alloc _) _ 1 1 [.string (bs s)] (by rfl) (Src.of_blk (Blk.made_at _ _ _ (by simp)) 1 1 1 rfl) (by intro u hu;simp at hu;rcases hu with rfl;rfl) (by unfold maxLen;omega) (by omega) (by simp;omega) ?_;intro v9 w9 hown9 hg9 hat9;obtain⟨A9,c9,rfl⟩:=bZ hown9)
                have hgr:=fun(y:Nat) hy=>(World.ownsRow.lt HO8.out y hy).1
                have hc9:RCur w9 g5 w4.heap.size part B5 d5 a2 0:=⟨(HC8.out.blk.alloc (.cells #[.string (bs s)] 9)).grown hg9 (Ne.symm (jZ (HO8.out.alloc (.cells #[.string (bs s)] 9)) (HC8.out.blk.alloc (.cells #[.string (bs s)] 9)) (by decide))),own_far (HC8.out.own.alloc (.cells #[.string (bs s)] 9)) (HO8.out.alloc (.cells #[.string (bs s)] 9)) (by decide) hg9,HC8.out.le,HC8.out.lo⟩
                have HC9:=hid hc9
                have HK9:Hid (Kept (fun z=>z<w3.heap.size) w6 w9):=(HK8.out.alloc (fun z hz=>by omega) _).grown hg9 (fun z hz=>by simp;omega) (fun z hz hh=>by have:=hgr z hz;omega)
                have HO9:Hid (w9.ownsRow w3.heap.size 9 1 (.slice A9 (p+1) c9) (p+1) (ccZ (t2++ [s]))):=by
                 show World.ownsRow _ _ _ _ _ _ _
                 rw[jiZ]
                 exact hown9
                clear hown9 hg9 hat9 hgr hc9 HC8 HK8 HO8
                go_roundw
                case measure=>go_light;simp[intOf];omega
                case rel=>go_light;exact⟨k+1,a2,p+1,t2++ [s],by omega,by omega,by first|rfl|go_num,by show _=_;rw[List.length_append,HP.out];rfl,HC9.out,HO9.out,HK9.out,by intro z hz;rcases List.mem_append.1 hz with h|h;exact HS2.out z h;(rw[List.mem_singleton]at h;rw[h];exact HSL.out),HG2.out⟩
               ·have gal:((al:Int) != (mm:Int))=true:=by rw[bne_iff_ne];omega
                have HNB:Hid (t= []∨dcZ was s=false∨(fb=false/\zZ was s≠mm)):= .inr (.inr ⟨HFT.out,fun h=>hal (HAL.out.trans h)⟩)
                clear hal DAL
                go_wp2_with fail
                refine(DAK.out _).mono ?_
                rintro e w8a ⟨rfl,q8,rfl⟩
                have HC8b:=hid (HC8.out.drewN q8)
                have HK8b:=hid (HK8.out.drewN q8)
                have HO8b:=hid (eZ (w':=w8.drewN q8) HO8.out (fun y _=>rfl))
                have HBXb:=hid (below_drewN HBX.out q8)
                have z8b:w8.heap.size<=(w8.drewN q8).heap.size:=Nat.le_refl _
                clear HC8 HK8 HO8 HBX DAK
                generalize w8.drewN q8=w8d at *
                have HC8:=HC8b
                have HK8:=HK8b
                have HO8:=HO8b
                have HBX:=HBXb
                clear HC8b HK8b HO8b HBXb
                have HR0:Hid (R=([],0,2)):=by
                 have h:=HGG.out
                 rw[if_neg (show ¬((0:Int)≠0) from fun h=>h rfl),if_pos HNB.out]at h
                 simp only at h
                 rw[if_pos (show(2:Int)≠0 by decide)]at h
                 exact HRE.out 2 h.symm (by decide)
                clear HGG HNB
                go_wp2_with fail
                go_ret3
                exact hcZ HR0.out HBX.out
              ·have HNB:Hid (t= []∨dcZ was s=false∨(fb=false/\zZ was s≠mm)):= .inr (.inl (by unfold dcZ;rw[decide_eq_false hlt];simp))
               simp only[decide_eq_false hlt,Bool.not_false]at DLE
               clear hlt
               have HR0:Hid (R=([],0,2)):=by
                have h:=HGG.out
                rw[if_neg (show ¬((0:Int)≠0) from fun h=>h rfl),if_pos HNB.out]at h
                simp only at h
                rw[if_pos (show(2:Int)≠0 by decide)]at h
                exact HRE.out 2 h.symm (by decide)
               clear HGG HNB
               go_wp2_with fail
               go_ret3
               exact hcZ HR0.out HBX.out
           ·have gE:(e2 != 0)=true:=by simpa using he
            have HR0:Hid (R=([],0,e2)):=by have h:=HGG.out;rw[if_pos he]at h;simp only at h;rw[if_pos he]at h;exact HRE.out e2 h.symm he
            clear he HGG
            go_wp2_with fail
            go_quiet (fail)
            go_wp2_with fail
            go_ret3
            exact hcZ HR0.out (below_drewN HBX.out _)
        ·obtain rfl:k=mn:=by omega
         have hG:=HG.out
         rw[Nat.sub_self,ncZ]at hG
         have hat3:=HC7.out.le
         have hmnx:=HMN.out
         have hp0n2:=HPN.out
         have DL:=hid (rleft_any wr g5 w4.heap.size part B5 d5 at3 0 (by have:=HPM.out;omega) HC7.out)
         unfold vgZ at hG
         obtain⟨lf,hlf⟩:∃lf,lf=part.length-at3:=⟨_,rfl⟩
         rw[<-hlf]at DL
         have HFE:Hid ((0<lf->F.2=2)/\(lf=0->F=(t2,0))):=⟨fun h=>by rw[<-hG,if_pos (by omega)];rfl,fun h=>by rw[<-hG,if_neg (by omega)]⟩
         have HKB:=HK7
         have HOB:=HO7
         clear hG HG hat3 hlf
         by_cases hks:k<size
         ·have gk:decide ((k:Int)<(size:Int))=true:=by simp;omega
          have gk':decide (k<size)=true:=by simp;omega
          have gp:decide ((p:Int)<(n:Int))=false:=by simp;omega
          have gp':decide (p<n)=false:=by simp;omega
          clear hks hmnx
          go_wp2_with fail
          refine DL.out.mono ?_
          rintro e w9 ⟨rfl,q9,rfl⟩
          have HK9:=hid (HKB.out.drewN q9)
          have HO9:=hid (eZ (w':=wr.drewN q9) HOB.out (fun y _=>rfl))
          have HB9:Hid (Below w.heap.size w (wr.drewN q9)):=below_drewN (HB6.out.trans (HKB.out.below fun b h=>by omega)) _
          have HCE:=hid (brZ HCC.out HK9.out (by omega) (fun z hz=>by have:=HCB.out z hz;omega))
          clear HC7 HK7 HO7 HKB HOB DL
          generalize wr.drewN q9=w9 at *
          by_cases hlf0:lf=0
          ·have gl:decide ((0:Int)<(lf:Int))=false:=by simp;omega
           have gl':decide (0<lf)=false:=by simp;omega
           have hFF:=HFE.out.2 hlf0
           have HRN:Hid (R=bkR size ls (acc.drop (i+1)) (n-(p0+size)) at4 t2):=by
            have h:=HRO.out (by rw[hFF])
            rw[hFF,Nat.sub_sub]at h
            exact h
           have HY2:Hid (p0+size=(i+1)*size):=by show _=_;rw[Nat.succ_mul,<-HY.out]
           have HPY2:Hid (i+1<q->p=p0+size):=fun h=>by have:=HNX.out h;have:=HMN.out;omega
           have HPN2:Hid (p<=n):=by show _<=_;have:=HMN.out;omega
           have HK10:Hid (Kept (fun z=>z<w3.heap.size/\z≠g) w3 w9):=HK5.out.trans ⟨HK9.out.os,HK9.out.tape,HK9.out.output,HK9.out.size,fun z hz=>HK9.out.block z hz.1⟩
           clear hFF hlf0 HFE HRE HRE2 HRO
           go_wp2_with fail
           go_roundw
           case measure=>go_light;simp[intOf];omega
           case rel=>go_light;exact⟨i+1,p0+size,at4,p,t2,by omega,by first|rfl|go_num,HY2.out,HP.out,HPN2.out,HPY2.out,HS2.out,HCE.out,HO9.out,HK10.out,HRN.out⟩
          ·have gl:decide ((0:Int)<(lf:Int))=true:=by simp;omega
           have gl':decide (0<lf)=true:=by simp;omega
           have HR0:Hid (R=([],0,2)):=HRE2.out 2 (HFE.out.1 (by omega)) (by decide)
           clear hlf0 HFE
           go_wp2_with fail
           go_ret3
           exact hcZ HR0.out HB9.out
         ·have gk:decide ((k:Int)<(size:Int))=false:=by simp;omega
          have gk':decide (k<size)=false:=by simp;omega
          clear hks hmnx
          go_wp2_with fail
          refine DL.out.mono ?_
          rintro e w9 ⟨rfl,q9,rfl⟩
          have HK9:=hid (HKB.out.drewN q9)
          have HO9:=hid (eZ (w':=wr.drewN q9) HOB.out (fun y _=>rfl))
          have HB9:Hid (Below w.heap.size w (wr.drewN q9)):=below_drewN (HB6.out.trans (HKB.out.below fun b h=>by omega)) _
          have HCE:=hid (brZ HCC.out HK9.out (by omega) (fun z hz=>by have:=HCB.out z hz;omega))
          clear HC7 HK7 HO7 HKB HOB DL
          generalize wr.drewN q9=w9 at *
          by_cases hlf0:lf=0
          ·have gl:decide ((0:Int)<(lf:Int))=false:=by simp;omega
           have gl':decide (0<lf)=false:=by simp;omega
           have hFF:=HFE.out.2 hlf0
           have HRN:Hid (R=bkR size ls (acc.drop (i+1)) (n-(p0+size)) at4 t2):=by
            have h:=HRO.out (by rw[hFF])
            rw[hFF,Nat.sub_sub]at h
            exact h
           have HY2:Hid (p0+size=(i+1)*size):=by show _=_;rw[Nat.succ_mul,<-HY.out]
           have HPY2:Hid (i+1<q->p=p0+size):=fun h=>by have:=HNX.out h;have:=HMN.out;omega
           have HPN2:Hid (p<=n):=by show _<=_;have:=HMN.out;omega
           have HK10:Hid (Kept (fun z=>z<w3.heap.size/\z≠g) w3 w9):=HK5.out.trans ⟨HK9.out.os,HK9.out.tape,HK9.out.output,HK9.out.size,fun z hz=>HK9.out.block z hz.1⟩
           clear hFF hlf0 HFE HRE HRE2 HRO
           go_wp2_with fail
           go_roundw
           case measure=>go_light;simp[intOf];omega
           case rel=>go_light;exact⟨i+1,p0+size,at4,p,t2,by omega,by first|rfl|go_num,HY2.out,HP.out,HPN2.out,HPY2.out,HS2.out,HCE.out,HO9.out,HK10.out,HRN.out⟩
          ·have gl:decide ((0:Int)<(lf:Int))=true:=by simp;omega
           have gl':decide (0<lf)=true:=by simp;omega
           have HR0:Hid (R=([],0,2)):=HRE2.out 2 (HFE.out.1 (by omega)) (by decide)
           clear hlf0 HFE
           go_wp2_with fail
           go_ret3
           exact hcZ HR0.out HB9.out
      ·have gE:(e4 != 0)=true:=by simpa using he4
       have HR0:Hid (R=([],0,e4)):=by have h:=HTT.out;rw[if_pos he4]at h;exact h
       clear he4 HTT HOP HO4
       go_wp2_with fail
       go_quiet (fail)
       go_wp2_with fail
       go_ret3
       exact hcZ HR0.out (below_drewN HBX.out _)
     ·obtain rfl:i=q:=by omega
      have gi:decide ((i:Int)<(i:Int))=false:=by simp
      have HR0:Hid (R=(ts,at2,0)):=by
       have h:=HT.out
       rw[List.drop_of_length_le (by rw[HQ.out];exact Nat.le_refl _)]at h
       exact h
      have pa:=HC3.out.cells.2.1
      have HBX:Hid (Below w.heap.size w wr):=HB3.out.trans (HK3.out.below fun b h=>⟨by omega,by omega⟩)
      have HOR:=hid (lZ HO3.out (show w.heap.size<=w3.heap.size by omega))
      clear HT HC3 HO3 HK3
      go_wp2_with fail
      go_quiet (fail)
      go_wp2_with fail
      go_ret3
      rw[HR0.out]
      exact⟨_,rfl,by rw[HP0.out];exact eZ HOR.out (fun y _=>rfl),below_drewN HBX.out _⟩
 ·have gE:(e0 != 0)=true:=by simpa using he0
  have HR0:Hid (R=([],0,e0)):=by
   have h:=HR.out
   have hz:=HZ.out
   rw[if_pos he0]at hz
   rw[hz,if_pos he0]at h
   exact h
  clear he0 HZ HR HC2
  go_wp2_with fail
  go_quiet (fail)
  go_wp2_with fail
  go_ret3
  exact hcZ HR0.out (below_drewN HB2.out _)
end Go.Proofs.YtbgoibedicbkjaaGreatDoor.Idx
