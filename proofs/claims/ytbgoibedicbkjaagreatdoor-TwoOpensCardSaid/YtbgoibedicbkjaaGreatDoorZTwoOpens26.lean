/- The walk of ef.row: a row of numbers in bits. -/
import Derived.Test.YtbgoibedicbkjaaGreatDoorZTwoOpens20
import Derived.Test.YtbgoibedicbkjaaGreatDoorZTwoOpens13
namespace Go.Proofs.YtbgoibedicbkjaaGreatDoor end Go.Proofs.YtbgoibedicbkjaaGreatDoor open Go.Proofs.YtbgoibedicbkjaaGreatDoor
open Go.Lib (hid)
namespace Go.Proofs.YtbgoibedicbkjaaGreatDoor.Ef
open Go.RowKit Mem Own Canon Huff NumPut
theorem Prt.keep{t:TypeId}{w w':World}{base g W:Nat}{hs ls:List Nat}{vH vL:Value}(h:Prt t w base g W hs ls vH vL)(hk:∀y,base<=y->y<w.heap.size->w'.heap[y]? =w.heap[y]?):Prt t w' base g W hs ls vH vL:=
 ⟨(hk g h.gb h.blk.lt).trans h.blk,eZ h.oh (fun y hy=>hk y (World.ownsRow.lt h.oh y hy).1 (World.ownsRow.lt h.oh y hy).2),eZ h.ol (fun y hy=>hk y (World.ownsRow.lt h.ol y hy).1 (World.ownsRow.lt h.ol y hy).2),h.gb⟩
theorem Prt.mono{t:TypeId}{w:World}{base base' g W:Nat}{hs ls:List Nat}{vH vL:Value}(h:Prt t w base g W hs ls vH vL)(hb:base'<=base):Prt t w base' g W hs ls vH vL:=
 ⟨h.blk,lZ h.oh hb,lZ h.ol hb,Nat.le_trans hb h.gb⟩
def ListAt(w:World)(base:Nat)(p:Value)(ids:List Nat):Prop:=
 ∃g W vH vL,p= .pointer (some ⟨g,0,none⟩)/\W<=14/\ids.length<=20000/\(∀x∈ids,x<=20000)/\Prt 286 w base g W (ids.map (·/ 2 ^ W)) (ids.map (·% 2 ^ W)) vH vL
def vnZ(w:World)(R:List Nat×Nat×Int)(e:Ending)(w':World):Prop:=
 Below w.heap.size w w'/\(R.2.2≠0->e= .returned (.tuple #[.pointer none, .int .i64 0, .int .i64 R.2.2]))/\(R.2.2=0->∃p,e= .returned (.tuple #[p, .int .i64 (R.2.1:Nat), .int .i64 0])/\ListAt w' w.heap.size p R.1)
theorem oiZ{w w':World}{R:List Nat×Nat×Int}{er:Int}(hR:R=([],0,er))(he:er≠0)(hb:Below w.heap.size w w'):vnZ w R (.returned (.tuple #[.pointer none, .int .i64 0, .int .i64 er])) w':=by
 subst hR
 exact⟨hb,fun _=>rfl,fun h=>absurd h he⟩
theorem jeZb{bound n:Nat}(hb:bound<=20000):efW bound n<=14:=by
 unfold efW
 by_cases h0:bound / n=0
 ·rw[h0];decide
 ·have h2:bound / n<=20000:=Nat.le_trans (Nat.div_le_self _ _) hb
  have h3:=wkZ h0
  by_cases h:Nat.log2 (bound / n)<=14
  ·exact h
  ·exfalso
   have:2 ^ 15<=2 ^ Nat.log2 (bound / n):=Nat.pow_le_pow_right (by omega) (by omega)
   omega
theorem ekZb{z at_:Nat}(hz:z % 8=0)(h:at_<=z):(z-at_) % 8=khZ at_:=by unfold khZ;omega
theorem keZb(a b:Nat)(ha:a<2 ^ 40)(hb:b<2 ^ 40):bits .or .i64 (a:Int) (b:Int)=((a |||b:Nat):Int):=
 (bits_nat .i64 40 (by decide) (fun n h0 h1=>IntWalk.i64_in _ (by omega)) a b ha hb).2
def imZ(acc:List Nat):Int:=if acc= []then-1 else((acc.getLast?.getD 0:Nat):Int)
theorem nwZ{acc:List Nat}{id:Nat}:(id:Int)<=imZ acc↔(acc≠ []/\id<=acc.getLast?.getD 0):=by
 unfold imZ
 by_cases h:acc= []
 ·rw[if_pos h];constructor
  ·intro h2;omega
  ·intro h2;exact absurd h h2.1
 ·rw[if_neg h];constructor
  ·intro h2;exact⟨h,by omega⟩
  ·intro h2;omega
theorem ibZb(acc:List Nat)(id:Nat):imZ (acc++ [id])=(id:Int):=by
 unfold imZ
 rw[if_neg (by simp)]
 simp
set_option maxHeartbeats 4000000 in
set_option maxRecDepth 100000 in
theorem fkZb(w:World)(A:Option Addr)(m c bound n:Nat)(ls:List Nat)(hm:ls.length=m)(hle:m<=100000)(h8:∀x∈ls,x<=255)(hnil:A=none->m=0/\c=0)(ha:Row w w.heap.size A m 1 (mZ .u8 ls))(h1:1<=n)(h2:n<=bound)(hb:bound<=20000):
 Calls Tryz.prog 208 #[.int .i64 (bound:Nat), .int .i64 (n:Nat), .slice A m c] w (vnZ w (ajZ bound n (ubZ ls))):=by
 have D0:=hid (wtZ w A m c ls hm hle h8 hnil ha)
 have DW:=hid (fun wx=>ssZ wx bound n h1 h2 (by omega))
 have hW:=jeZb (n:=n) hb
 have hz8:(ubZ ls).length=8*m:=by rw[nbZ,hm]
 have HNW:Hid (n*efW bound n<=280000):=Nat.le_trans (Nat.mul_le_mul (by omega:n<=20000) hW) (by decide)
 obtain⟨R,hR⟩:∃R,R=ajZ bound n (ubZ ls):=⟨_,rfl⟩
 rw[<-hR]
 unfold ajZ at hR
 generalize efW bound n=W at *
 generalize ubZ ls=bs at *
 have HR:=hid hR
 have HZ:=hid hz8
 clear hm h8 hnil ha hR hz8
 go_enter Tryz.func208,Tryz.ntmps208
 go_wp2_with fail
 refine D0.out.mono ?_
 rintro e w1 ⟨gr,rfl,hR1,hgr,hb1⟩
 have hgl:=hR1.lt
 have HR1:=hid hR1
 have HB1:=hid hb1
 clear hR1 hb1 D0
 go_wp2_with fail
 refine(DW.out _).mono ?_
 rintro e w1' ⟨rfl,rfl⟩
 go_wp2_with fail
 have hP2:Prt 286 (w1'.alloc (.cells #[.int .i64 (W:Nat), .slice none 0 0, .slice none 0 0] 286)) w1'.heap.size w1'.heap.size W (([]:List Nat).map (·/ 2 ^ W)) (([]:List Nat).map (·% 2 ^ W)) (.slice none 0 0) (.slice none 0 0):=⟨Blk.made _ _ _,World.ownsRow_nil _ _ _ _,World.ownsRow_nil _ _ _ _,Nat.le_refl _⟩
 have hR2:Rd (w1'.alloc (.cells #[.int .i64 (W:Nat), .slice none 0 0, .slice none 0 0] 286)) w.heap.size gr bs 0:=HR1.out.keep (fun b _ hb2=>Below.heap_alloc w1' _ b (by omega)) hgr
 have hb2:Below w.heap.size w (w1'.alloc (.cells #[.int .i64 (W:Nat), .slice none 0 0, .slice none 0 0] 286)):=gZ HB1.out.size HB1.out
 generalize hg2:w1'.alloc (.cells #[.int .i64 (W:Nat), .slice none 0 0, .slice none 0 0] 286)=w2 at *
 have z2:w2.heap.size=w1'.heap.size+1:=by rw[<-hg2];simp
 clear hg2
 have zw:=HB1.out.size
 generalize w1'.heap.size=gl at *
 have c0:=hP2.blk.cell 0
 simp only[List.getElem?_toArray,List.getElem?_cons_zero]at c0
 have HP2:=hid hP2
 have HB2:=hid hb2
 have DL:=hid (nhZb w2 w.heap.size gr bs n W (by omega) hW hgr hR2)
 unfold rpZ at DL
 clear hP2 hR2 hb2 HR1 HB1 DW
 go_wp2_with fail
 refine DL.out.mono ?_
 rintro e w3 ⟨hk3,hpost⟩
 have z3:=hk3.size
 have HB3:Hid (Below w.heap.size w w3):=HB2.out.trans (hk3.below (fun b h=>⟨by omega,by omega⟩))
 by_cases hlt:bs.length<n*W
 ·rw[if_pos hlt]at hpost
  subst hpost
  have HR0:Hid (R=([],0,1)):=by have h:=HR.out;rw[if_pos hlt]at h;exact h
  clear hlt HR hk3
  go_wp2_with fail
  go_ret3
  exact oiZ HR0.out (by decide) HB3.out
 ·rw[if_neg hlt]at hpost
  obtain⟨v,rfl,hown,hR3⟩:=hpost
  obtain⟨va,vc,rfl⟩:=bZ hown
  have hr:=HR.out
  rw[if_neg hlt]at hr
  have hP3:Prt 286 w3 gl gl W (([]:List Nat).map (·/ 2 ^ W)) (([]:List Nat).map (·% 2 ^ W)) (.slice none 0 0) (.slice none 0 0):=HP2.out.keep (fun y hy hy2=>hk3.block y ⟨hy2,by omega⟩)
  obtain⟨T,hT⟩:∃T,T=rowN bound W bs (rbZ W bs n) (n*W) 0 []:=⟨_,rfl⟩
  rw[<-hT]at hr
  have HLL:Hid (∀x∈rbZ W bs n,x<2 ^ W):=tvZ W bs n
  have HLEN:Hid ((rbZ W bs n).length=n):=dkZ W bs n
  have HT0:Hid (rowN bound W bs ((rbZ W bs n).drop 0) (n*W) 0 []=T):=hT.symm
  have HAT0:Hid (n*W<=bs.length):=by show _<=_;omega
  generalize rbZ W bs n=lw at *
  generalize n*W=N0 at *
  have HRR:=hid hr
  have HRE:Hid (∀a er,T=([],a,er)->er≠0->R=([],0,er)):=fun a er h he=>by rw[hr,h];exact if_pos he
  have hbz:bs.length<=800000:=by have:=HZ.out;omega
  have HO3:=hid hown
  have HR3:=hid hR3
  have HP3:=hid hP3
  have HV0:Hid (∀y,(Value.slice va n vc).ownBlock=some y->w2.heap.size<=y):=fun y hy=>(World.ownsRow.lt hown y hy).1
  clear hlt hr hT hown hR3 hP3 HR HP2 HB2 DL hk3 c0
  go_wp2_with fail
  go_loopw [13,14,47] (fun hv wv iv wr=>∃ (k high at_:Nat) (ids:List Nat) (vH vL:Value),k<=n/\high<=20000/\at_<=bs.length/\hv= .int .i64 high/\iv= .int .i64 k/\wv= .int .i64 (imZ ids)/\Hid (ids.length=k)/\Hid (∀x∈ids,x<=20000)/\Hid (rowN bound W bs (lw.drop k) at_ high ids=T)/\Hid (wr.ownsRow w2.heap.size 47 1 (.slice va n vc) n (cZ .u16 lw))/\Hid (Rd wr w.heap.size gr bs at_)/\Hid (Prt 286 wr gl gl W (ids.map (·/ 2 ^ W)) (ids.map (·% 2 ^ W)) vH vL)/\Hid (∀y,(Value.slice va n vc).ownBlock=some y->vL.ownBlock≠some y)/\Hid (Below w.heap.size w wr)) (fun _ _ iv _=>n-(intOf iv).toNat)
  case atStart=>exact⟨0,0,N0,[], .slice none 0 0, .slice none 0 0,by omega,by omega,HAT0.out,rfl,rfl,rfl,rfl,fun x hx=>by simp at hx,HT0.out,HO3.out,HR3.out,HP3.out,(by first|trivial|(intro y _ h;cases h)),HB3.out⟩
  case round=>
   obtain⟨k,high,at_,ids,vH,vL,hk,hhigh,hat,rfl,rfl,rfl,HI,HI2,HT,HO,HRd,HP,HV,HB⟩:=hrel
   have zr:=HB.out.size
   have hglr:=HP.out.blk.lt
   clear HT0 HAT0 HO3 HR3 HP3 HB3
   by_cases hkn:k<n
   ·have g1:decide ((k:Int)<(n:Int))=true:=by simp;omega
    have g1':decide (k<n)=true:=by simp;omega
    obtain⟨x,hx⟩:∃x,lw[k]? =some x:=⟨_,List.getElem?_eq_getElem (by have:=HLEN.out;omega)⟩
    have hdrop:lw.drop k=x :: lw.drop (k+1):=by
     obtain⟨hl,e⟩:=List.getElem?_eq_some_iff.1 hx
     rw[List.drop_eq_getElem_cons hl,e]
    have hxlt:=HLL.out x (List.mem_of_getElem? hx)
    have hpw:2 ^ W<=16384:=by have:2 ^ W<=2 ^ 14:=Nat.pow_le_pow_right (by omega) hW;omega
    have hpw1:1<=2 ^ W:=Nat.one_le_two_pow
    obtain⟨gv,cv,hAv,hgv,_⟩:=HO.out.form (by omega)
    injection hAv with e1 e2 e3
    subst e1 e3
    have cx:wr.cell? ⟨gv,k,none⟩=some (.int .u16 (x:Nat)):=by
     rw[HO.out.cellAt k (by omega)]
     unfold cZ
     rw[List.getElem?_map,hx]
     rfl
    have x0:(0:Int)<=(k:Int):=by omega
    have x1:(k:Int)<(n:Int):=by omega
    have hT:=HT.out
    rw[hdrop,rowN]at hT
    have DU:=hid (ngZb wr w.heap.size gr bs at_ HRd.out)
    have hdle:=qdZb bs at_
    have hua:=uvZ hat
    generalize unV bs at_=d at *
    generalize unE bs at_=ue at *
    generalize unA bs at_=ua at *
    obtain⟨h2',hh2⟩:∃h2',h2'=high+d:=⟨_,rfl⟩
    have s1:IntKind.i64.wrap ((high:Int)+(d:Int))=(h2':Int):=by rw[IntWalk.i64_in _ (by omega)];omega
    rw[<-hh2]at hT
    obtain⟨hw,hhw⟩:∃hw,hw=h2'*2 ^ W:=⟨_,rfl⟩
    have hwle:hw<=13434880000:=by rw[hhw];exact Nat.le_trans (Nat.mul_le_mul (show h2'<=820000 by omega) hpw) (by decide)
    have hwge:h2'<=hw:=by rw[hhw];exact Nat.le_mul_of_pos_right _ (by omega)
    have E1:Hid (IntKind.i64.wrap ((h2':Int)*2 ^ W)=(hw:Int)):=by
     show _=_
     rw[show(h2':Int)*2 ^ W=(hw:Int) by rw[hhw];simp,IntWalk.i64_in _ (by omega)]
    have E2:Hid (bits .or .i64 (hw:Int) (x:Int)=((hw+x:Nat):Int)):=by
     show _=_
     rw[keZb hw x (by omega) (by omega),hhw,dzZ h2' x W hxlt]
    rw[<-hhw]at hT
    obtain⟨id,hjd⟩:∃id,id=hw+x:=⟨_,rfl⟩
    rw[<-hjd]at hT E2
    have w16:IntKind.i64.wrap (x:Int)=(x:Int):=IntWalk.i64_in _ (by omega)
    have hidge:h2'<=id:=by omega
    have HTT:=hid hT
    clear hT hx hdrop hxlt hh2 hhw hjd HT hpw1
    go_wp2_with fail
    refine DU.out.mono ?_
    rintro e w4 ⟨rfl,hR4,hk4⟩
    have z4:=hk4.size
    have HR4:=hid hR4
    have HP4:Hid (Prt 286 w4 gl gl W (ids.map (·/ 2 ^ W)) (ids.map (·% 2 ^ W)) vH vL):=HP.out.keep (fun y hy _=>hk4.block y (by omega))
    have HO4:Hid (w4.ownsRow w2.heap.size 47 1 (.slice (some ⟨gv,0,none⟩) n vc) n (cZ .u16 lw)):=eZ HO.out (fun y hy=>hk4.block y (by have:=(World.ownsRow.lt HO.out y hy).1;omega))
    have HB4:Hid (Below w.heap.size w w4):=HB.out.trans (hk4.below (fun b h=>by omega))
    have c0:=HP4.out.blk.cell 0
    simp only[List.getElem?_toArray,List.getElem?_cons_zero]at c0
    clear hR4 hk4 HP HO HB HRd DU cx
    by_cases hue:ue=0
    ·subst hue
     have hT:=HTT.out
     rw[if_neg (show ¬((0:Int)≠0) from fun h=>h rfl)]at hT
     by_cases hB:ids≠ []/\id<=ids.getLast?.getD 0
     ·have gB:decide ((id:Int)<=imZ ids)=true:=decide_eq_true (nwZ.2 hB)
      have HR0:Hid (R=([],0,2)):=by rw[if_pos hB]at hT;exact HRE.out _ _ hT.symm (by decide)
      have e1:=E1.out
      have e2:=E2.out
      clear hB hT HTT
      go_wp2_with fail
      go_ret3
      exact oiZ HR0.out (by decide) HB4.out
     ·have gB:decide ((id:Int)<=imZ ids)=false:=decide_eq_false (fun h=>hB (nwZ.1 h))
      rw[if_neg hB]at hT
      by_cases hC:bound<=id
      ·have gC:decide ((bound:Int)<=(id:Int))=true:=by simp;omega
       have gC':decide (bound<=id)=true:=by simp;omega
       have HR0:Hid (R=([],0,8)):=by rw[if_pos hC]at hT;exact HRE.out _ _ hT.symm (by decide)
       have e1:=E1.out
       have e2:=E2.out
       clear hB hT HTT hC
       go_wp2_with fail
       go_ret3
       exact oiZ HR0.out (by decide) HB4.out
      ·have gC:decide ((bound:Int)<=(id:Int))=false:=by simp;omega
       have gC':decide (bound<=id)=false:=by simp;omega
       rw[if_neg hC]at hT
       have hid2:id<=20000:=by omega
       have DA:=hid (ctZ 286 (by decide) (by decide) w4 gl gl W _ _ vH vL id (by omega) hW (by rw[List.length_map,HI.out];omega) (by rw[List.length_map,HI.out];omega) HP4.out)
       have HT4:=hid hT
       have hgl4:=HP4.out.blk.lt
       have e1:=E1.out
       have e2:=E2.out
       clear hB hT HTT hC
       go_wp2_with fail
       refine DA.out.mono ?_
       rintro e w5 ⟨rfl,vH',vL',hP5,hb5,hk5,hL5⟩
       have HP5:Hid (Prt 286 w5 gl gl W ((ids++ [id]).map (·/ 2 ^ W)) ((ids++ [id]).map (·% 2 ^ W)) vH' vL'):=by rw[List.map_append,List.map_append];exact hP5
       have HR5:Hid (Rd w5 w.heap.size gr bs ua):=HR4.out.keep (fun b _ hb2=>hb5.block b (by omega)) hgr
       have HO5:Hid (w5.ownsRow w2.heap.size 47 1 (.slice (some ⟨gv,0,none⟩) n vc) n (cZ .u16 lw)):=eZ HO4.out (fun y hy=>hk5.block y ⟨(World.ownsRow.lt HO4.out y hy).2,by have:=(World.ownsRow.lt HO4.out y hy).1;omega,fun e=>by
        rcases ddZ HP4.out.oh HO4.out (by decide)with e3|e3
        ·rw[e3]at e;cases e
        ·exact e3 (by rw[e,hy]),HV.out y hy⟩)
       have HV5:Hid (∀y,(Value.slice (some ⟨gv,0,none⟩) n vc).ownBlock=some y->vL'.ownBlock≠some y):=fun y hy h=>HV.out y hy (hL5 y (World.ownsRow.lt HO4.out y hy).2 h)
       have HB5:Hid (Below w.heap.size w w5):=HB4.out.trans (hb5.mono (by omega))
       clear hP5 hb5 hk5 hL5 HP4 HR4 HO4 HB4 HV DA c0 e1 e2
       go_wp2_with fail
       go_roundw
       case measure=>go_light;simp[intOf];omega
       case rel=>go_light;exact⟨k+1,h2',ua,ids++ [id],vH',vL',by omega,by omega,hua,by first|rfl|go_num,by first|rfl|go_num,by rw[ibZb],by show _=_;rw[List.length_append,HI.out];rfl,by intro y hy;rcases List.mem_append.1 hy with h|h;exact HI2.out y h;(rw[List.mem_singleton]at h;omega),HT4.out,HO5.out,HR5.out,HP5.out,HV5.out,HB5.out⟩
    ·have gE:(ue != 0)=true:=by simpa using hue
     have HR0:Hid (R=([],0,ue)):=by have h:=HTT.out;rw[if_pos hue]at h;exact HRE.out _ _ h.symm hue
     have HNE:=hid hue
     clear hue HTT
     go_wp2_with fail
     go_ret3
     exact oiZ HR0.out HNE.out HB4.out
   ·obtain rfl:k=n:=by omega
    have g1:decide ((k:Int)<(k:Int))=false:=by simp
    have hT:=HT.out
    rw[List.drop_of_length_le (by rw[HLEN.out];exact Nat.le_refl _),rowN]at hT
    have hr:=HRR.out
    rw[<-hT]at hr
    rw[if_neg (show ¬((0:Int)≠0) from fun h=>h rfl)]at hr
    have hpad:=ekZb (z:=bs.length) (at_:=at_) (by rw[HZ.out];omega) hat
    simp only at hr
    have DL:=hid (left_any wr w.heap.size gr bs at_ HRd.out)
    have HRR2:=hid hr
    obtain⟨r,hr8⟩:∃r,r=khZ at_:=⟨_,rfl⟩
    obtain⟨l,hl⟩:∃l,l=bs.length-at_:=⟨_,rfl⟩
    rw[<-hl]at DL hpad
    have sr:(l:Int) % 8=(r:Int):=by omega
    have hr7:r<=7:=by rw[hr8];unfold khZ;omega
    have hfit:at_+r<=bs.length:=by have h:=HZ.out;have h3:=Nat.mod_le l 8;omega
    rw[<-hr8]at hr
    have HRA:=hid hr
    have ha2:at_+r=at_+khZ at_:=by rw[hr8]
    clear hT hr HT HRR hl hpad hr8 HRR2
    go_wp2_with fail
    refine DL.out.mono ?_
    rintro e w4 ⟨rfl,q,hq⟩
    have HR4:Hid (Rd w4 w.heap.size gr bs at_):=by rw[hq];exact HRd.out.drewN q
    have HP4:Hid (Prt 286 w4 gl gl W (ids.map (·/ 2 ^ W)) (ids.map (·% 2 ^ W)) vH vL):=by rw[hq];exact HP.out.keep (fun y _ _=>rfl)
    have HB4:Hid (Below w.heap.size w w4):=by rw[hq];exact below_drewN HB.out q
    clear hq HRd HP HB DL
    by_cases hr0:r=0
    ·subst hr0
     have HRF:Hid (R=(ids,(at_+7) / 8,0)):=by have h:=HRA.out;rw[if_neg (by rw[wbZ];exact fun h=>h rfl)]at h;exact h
     obtain⟨a2,ha⟩:∃a2,a2=at_+0:=⟨_,rfl⟩
     rw[<-ha]at ha2
     have HR5:Hid (Rd w4 w.heap.size gr bs a2):=by rw[ha];exact HR4.out
     have HP5:=HP4
     have HB5:=HB4
     obtain⟨w5,rfl⟩:∃w5:World,w5=w4:=⟨_,rfl⟩
     clear HRA ha HR4 HP4 HB4
     have DL5:=hid (left_any w5 w.heap.size gr bs a2 HR5.out)
     obtain⟨l2,hl2⟩:∃l2,l2=bs.length-a2:=⟨_,rfl⟩
     rw[<-hl2]at DL5
     obtain⟨t,ht⟩:∃t,t=l2 / 8:=⟨_,rfl⟩
     have st:(l2:Int) / 8=(t:Int):=by omega
     have st2:IntKind.i64.wrap (t:Int)=(t:Int):=IntWalk.i64_in _ (by have:=HZ.out;omega)
     have so:IntKind.i64.wrap ((m:Int)-(t:Int))=(((at_+7) / 8:Nat):Int):=by rw[IntWalk.i64_in _ (by have:=HZ.out;omega)];have:=HZ.out;unfold khZ at ha2;omega
     generalize (at_+7) / 8=o at *
     clear hl2 ht ha2
     go_wp2_with fail
     refine DL5.out.mono ?_
     rintro e w6 ⟨rfl,q6,hq6⟩
     have HP6:Hid (Prt 286 w6 gl gl W (ids.map (·/ 2 ^ W)) (ids.map (·% 2 ^ W)) vH vL):=by rw[hq6];exact HP5.out.keep (fun y _ _=>rfl)
     have HB6:Hid (Below w.heap.size w w6):=by rw[hq6];exact below_drewN HB5.out q6
     clear hq6 HP5 HB5 DL5
     go_wp2_with fail
     go_ret3
     rw[HRF.out]
     exact⟨HB6.out,fun h=>absurd rfl h,fun _=>⟨_,rfl,gl,W,vH,vL,rfl,hW,by rw[HI.out];omega,HI2.out,HP6.out.mono zw⟩⟩
    ·have gr0:decide ((0:Int)<(r:Int))=true:=by simp;omega
     have gr0':decide (0<r)=true:=by simp;omega
     have DG:=cvZ w4 w.heap.size gr bs at_ r (by omega) HR4.out
     unfold jpZ kpZ lpZ at DG
     rw[if_pos hfit,if_pos hfit,if_pos hfit]at DG
     obtain⟨a2,ha⟩:∃a2,a2=at_+r:=⟨_,rfl⟩
     rw[<-ha]at ha2 DG
     generalize wbZ bs at_ r=y at *
     have DG:=hid DG
     clear ha hr0
     go_wp2_with fail
     refine DG.out.mono ?_
     rintro e w5 ⟨rfl,hR5,hk5⟩
     have HR5:=hid hR5
     have HP5:Hid (Prt 286 w5 gl gl W (ids.map (·/ 2 ^ W)) (ids.map (·% 2 ^ W)) vH vL):=HP4.out.keep (fun y hy _=>hk5.block y (by omega))
     have HB5:Hid (Below w.heap.size w w5):=HB4.out.trans (hk5.below (fun b h=>by omega))
     clear hR5 hk5 HR4 HP4 HB4 DG
     by_cases hy:y=0
     ·subst hy
      have HRF:Hid (R=(ids,(at_+7) / 8,0)):=by have h:=HRA.out;rw[if_neg (fun h=>h rfl)]at h;exact h
      clear HRA
      have DL5:=hid (left_any w5 w.heap.size gr bs a2 HR5.out)
      obtain⟨l2,hl2⟩:∃l2,l2=bs.length-a2:=⟨_,rfl⟩
      rw[<-hl2]at DL5
      obtain⟨t,ht⟩:∃t,t=l2 / 8:=⟨_,rfl⟩
      have st:(l2:Int) / 8=(t:Int):=by omega
      have st2:IntKind.i64.wrap (t:Int)=(t:Int):=IntWalk.i64_in _ (by have:=HZ.out;omega)
      have so:IntKind.i64.wrap ((m:Int)-(t:Int))=(((at_+7) / 8:Nat):Int):=by rw[IntWalk.i64_in _ (by have:=HZ.out;omega)];have:=HZ.out;unfold khZ at ha2;omega
      generalize (at_+7) / 8=o at *
      clear hl2 ht ha2
      go_wp2_with fail
      refine DL5.out.mono ?_
      rintro e w6 ⟨rfl,q6,hq6⟩
      have HP6:Hid (Prt 286 w6 gl gl W (ids.map (·/ 2 ^ W)) (ids.map (·% 2 ^ W)) vH vL):=by rw[hq6];exact HP5.out.keep (fun y _ _=>rfl)
      have HB6:Hid (Below w.heap.size w w6):=by rw[hq6];exact below_drewN HB5.out q6
      clear hq6 HP5 HB5 DL5
      go_wp2_with fail
      go_ret3
      rw[HRF.out]
      exact⟨HB6.out,fun h=>absurd rfl h,fun _=>⟨_,rfl,gl,W,vH,vL,rfl,hW,by rw[HI.out];omega,HI2.out,HP6.out.mono zw⟩⟩
     ·have gy:((y:Int) != 0)=true:=by rw[bne_iff_ne];omega
      have HR0:Hid (R=([],0,2)):=by have h:=HRA.out;rw[if_pos hy]at h;exact h
      clear HRA hy ha2
      go_wp2_with fail
      go_ret3
      exact oiZ HR0.out (by decide) HB5.out
end Go.Proofs.YtbgoibedicbkjaaGreatDoor.Ef
