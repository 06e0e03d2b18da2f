/- The walks of ef.Read and of its List: number, Len, All. -/
import Derived.Test.YtbgoibedicbkjaaGreatDoorZTwoOpens26
import Derived.Test.YtbgoibedicbkjaaGreatDoorZTwoOpens19
namespace Go.Proofs.YtbgoibedicbkjaaGreatDoor end Go.Proofs.YtbgoibedicbkjaaGreatDoor open Go.Proofs.YtbgoibedicbkjaaGreatDoor
open Go.Lib (hid)
set_option maxRecDepth 100000
namespace Go.Proofs.YtbgoibedicbkjaaGreatDoor.Ef
open Go.RowKit Mem Own Canon NumPut Nums
open Go.Proofs.YtbgoibedicbkjaaGreatDoor.Huff (ubZ nbZ)
open Go.Proofs.YtbgoibedicbkjaaGreatDoor.Crc (uZ)
theorem number_any(w:World)(base g W i id:Nat)(ids:List Nat)(vH vL:Value)(hW:W<=14)(hlen:ids.length<=20000)(hall:∀x∈ids,x<=20000)(hP:Prt 286 w base g W (ids.map (·/ 2 ^ W)) (ids.map (·% 2 ^ W)) vH vL)(hi:ids[i]? =some id):
 Calls Tryz.prog 209 #[.pointer (some ⟨g,0,none⟩), .int .i64 (i:Nat)] w fun e w'=>e= .returned (.int .i64 (id:Nat))/\∃q,w'=w.drewN q:=by
 have hil:i<ids.length:=(List.getElem?_eq_some_iff.1 hi).1
 have hjd:=hall id (List.mem_of_getElem? hi)
 have hpw:2 ^ W<=16384:=by have:2 ^ W<=2 ^ 14:=Nat.pow_le_pow_right (by omega) hW;omega
 have hpw1:1<=2 ^ W:=Nat.one_le_two_pow
 have c0:=hP.blk.cell 0
 have c1:=hP.blk.cell 1
 have c2:=hP.blk.cell 2
 simp only[List.getElem?_toArray,List.getElem?_cons_zero,List.getElem?_cons_succ]at c0 c1 c2
 have oh:=hP.oh
 have ol:=hP.ol
 rw[List.length_map]at oh ol
 obtain⟨gh,ch,rfl,_,_⟩:=oh.form (by omega)
 obtain⟨gl,cl,rfl,_,_⟩:=ol.form (by omega)
 obtain⟨hi2,hhi⟩:∃a,a=id / 2 ^ W:=⟨_,rfl⟩
 obtain⟨lo,hlo⟩:∃a,a=id % 2 ^ W:=⟨_,rfl⟩
 have d1:w.cell? ⟨gh,i,none⟩=some (.int .i64 (hi2:Nat)):=by
  rw[oh.cellAt i (by omega)]
  unfold cZ
  rw[List.getElem?_map,List.getElem?_map,hi,hhi]
  rfl
 have d2:w.cell? ⟨gl,i,none⟩=some (.int .u16 (lo:Nat)):=by
  rw[ol.cellAt i (by omega)]
  unfold cZ
  rw[List.getElem?_map,List.getElem?_map,hi,hlo]
  rfl
 have hloW:lo<2 ^ W:=by rw[hlo];exact Nat.mod_lt _ (by omega)
 have hsum:hi2*2 ^ W+lo=id:=by rw[hhi,hlo,Nat.mul_comm];exact Nat.div_add_mod _ _
 obtain⟨hw,hhw⟩:∃hw,hw=hi2*2 ^ W:=⟨_,rfl⟩
 have e1:IntKind.i64.wrap ((hi2:Int)*2 ^ W)=(hw:Int):=by
  rw[show(hi2:Int)*2 ^ W=(hw:Int) by rw[hhw];simp,IntWalk.i64_in _ (by omega)]
 have e2:bits .or .i64 (hw:Int) (lo:Int)=(id:Int):=by
  rw[keZb hw lo (by omega) (by omega),hhw,dzZ hi2 lo W hloW,hsum]
 have w16:IntKind.i64.wrap (lo:Int)=(lo:Int):=IntWalk.i64_in _ (by omega)
 have x0:(0:Int)<=(i:Int):=by omega
 have x1:(i:Int)<(ids.length:Int):=by omega
 generalize ids.length=n at *
 clear hP oh ol hi hall hhi hlo hsum hhw hloW hpw hpw1
 go_enter Tryz.func209,Tryz.ntmps209
 go_wp2_with fail
 go_quiet (fail)
 go_wp2_with fail
 go_ret
 exact⟨rfl,_,rfl⟩
theorem len_any(w:World)(base:Nat)(p:Value)(ids:List Nat)(h:ListAt w base p ids):
 Calls Tryz.prog 170 #[p] w fun e w'=>e= .returned (.int .i64 (ids.length:Nat))/\w'=w:=by
 obtain⟨g,W,vH,vL,rfl,_,_,_,hP⟩:=h
 have c1:=hP.blk.cell 1
 have oh:=hP.oh
 rw[List.length_map]at oh
 obtain⟨A,c,rfl⟩:=bZ oh
 simp only[List.getElem?_toArray,List.getElem?_cons_zero,List.getElem?_cons_succ]at c1
 generalize ids.length=n at *
 clear hP oh
 go_enter Tryz.func170,Tryz.ntmps170
 go_wp2_with fail
 go_ret
 exact⟨rfl,rfl⟩
theorem mtZ:(Tryz.prog.info? 3).map (fun i=>(i.zero,i.size,i.bytes))=some (some (.int .i64 0),1,8):=by kernel_rfl
theorem eiZb(w:World)(base:Nat)(p:Value)(ids:List Nat)(h:ListAt w base p ids):
 Calls Tryz.prog 171 #[p] w fun e w'=>∃v,e= .returned v/\w'.ownsRow w.heap.size 3 1 v ids.length (cZ .i64 ids)/\Below w.heap.size w w':=by
 obtain⟨j0,hj0,hy0,hy1,hy2⟩:=info_parts mtZ
 have DL:=hid (len_any w base p ids h)
 obtain⟨g,W,vH,vL,rfl,hW,hlen,hall,hP⟩:=h
 have DN:=hid (fun wx i id (hb:Below w.heap.size w wx) hi=>number_any wx base g W i id ids vH vL hW hlen hall (hP.keep (fun y _ hy2=>hb.block y hy2)) hi)
 obtain⟨n,hn⟩:∃n,n=ids.length:=⟨_,rfl⟩
 rw[<-hn]at DL hlen ⊢
 have HN:=hid hn
 clear hall hP hn
 go_enter Tryz.func171,Tryz.ntmps171
 go_wp2_with fail
 refine DL.out.mono ?_
 rintro e w1 ⟨rfl,rfl⟩
 go_wp2_with fail
 go_loopw [3,7] (fun v iv wr=>∃k:Nat,k<=n/\iv= .int .i64 k/\Hid (wr.ownsRow w1.heap.size 3 1 v k (cZ .i64 (ids.take k)))/\Hid (Below w1.heap.size w1 wr)) (fun _ iv _=>n-(intOf iv).toNat)
 case atStart=>exact⟨0,by omega,rfl,World.ownsRow_nil _ _ _ _,Below.refl _ _⟩
 case round=>
  obtain⟨k,hk,rfl,HO,HB⟩:=hrel
  obtain⟨va,vc,rfl⟩:=bZ HO.out
  have zr:=HB.out.size
  by_cases hkn:k<n
  ·have g1:decide ((k:Int)<(n:Int))=true:=by simp;omega
   have g1':decide (k<n)=true:=by simp;omega
   obtain⟨id,hjd⟩:∃id,ids[k]? =some id:=⟨_,List.getElem?_eq_getElem (by have:=HN.out;omega)⟩
   have HT:Hid (ids.take (k+1)=ids.take k++ [id]):=by show _=_;rw[List.take_add_one,hjd];rfl
   have D:=hid (DN.out wr k id HB.out hjd)
   clear hjd DL
   go_wp2_with fail
   refine D.out.mono ?_
   rintro e w2 ⟨rfl,q,hq⟩
   have HO2:Hid (w2.ownsRow w1.heap.size 3 1 (.slice va k vc) k (cZ .i64 (ids.take k))):=by rw[hq];exact eZ HO.out (fun y _=>rfl)
   have HB2:Hid (Below w1.heap.size w1 w2):=by rw[hq];exact below_drewN HB.out q
   have z2:=HB2.out.size
   clear hq HO HB D
   go_wp2_with(at_builtin;refine kZ rfl (.tmp 10) (.tmp 16) 30 rfl w1.heap.size 3 j0 _ 1 8 Tryz.underlying30 hj0 hy0 hy1 hy2 rfl (by decide) _ _ _ (by rfl) (HO2.out.alloc _) _ 1 1 [.int .i64 (id:Nat)] (by rfl) (Src.of_blk (Blk.made_at _ _ _ (by simp)) 1 1 1 rfl) (by intro u hu;simp at hu;rcases hu with rfl;rfl) (by unfold maxLen;omega) (by omega) (by simp;omega) ?_;intro v5 w5 hown5 hg5 hat5;obtain⟨A5,c5,rfl⟩:=bZ hown5)
   have HB5:Hid (Below w1.heap.size w1 w5):=(gZ z2 HB2.out).grown hg5 (by simp;omega) (fun y hy=>(World.ownsRow.lt HO2.out y hy).1)
   have HO5:Hid (w5.ownsRow w1.heap.size 3 1 (.slice A5 (k+1) c5) (k+1) (cZ .i64 (ids.take (k+1)))):=by
    show World.ownsRow _ _ _ _ _ _ _
    rw[HT.out,show cZ .i64 (ids.take k++ [id])=cZ .i64 (ids.take k)++ [.int .i64 (id:Nat)] by simp[cZ]]
    exact hown5
   clear hown5 hg5 hat5 HT
   go_roundw
   case measure=>go_light;simp[intOf];omega
   case rel=>go_light;exact⟨k+1,by omega,by first|rfl|go_num,HO5.out,HB5.out⟩
  ·obtain rfl:k=n:=by omega
   have g1:decide ((k:Int)<(k:Int))=false:=by simp
   have HT:Hid (ids.take k=ids):=List.take_of_length_le (by rw[HN.out];exact Nat.le_refl _)
   rw[HT.out]at HO
   go_wp2_with fail
   go_ret
   exact⟨_,rfl,HO.out,HB.out⟩
def efG(a:Nat)(R:List Nat×Nat×Int):List Nat×Nat×Int:=if R.2.2≠0 then([],0,R.2.2)else(R.1,a+R.2.1,0)
def efR(bound:Nat)(bs:List Nat):List Nat×Nat×Int:=
 if qZ bound bs 0 0≠0 then([],0,qZ bound bs 0 0)else if tZ bound bs 0 0=0 then([],pZ bound bs 0 0,0)
 else efG (pZ bound bs 0 0) (ajZ bound (tZ bound bs 0 0) (ubZ (bs.drop (pZ bound bs 0 0))))
theorem mzZ{bound n z:Nat}{bs:List Bool}(hz:bs.length=8*z):(ajZ bound n bs).2.1<=z:=by
 unfold ajZ
 split
 ·exact Nat.zero_le _
 ·rename_i h
  have:=czZ (bound:=bound) (W:=efW bound n) (bs:=bs) (rbZ (efW bound n) bs n) (n*efW bound n) 0 [] (by omega)
  split
  ·exact Nat.zero_le _
  ·split
   ·exact Nat.zero_le _
   ·simp only;omega
theorem leZb{bound:Nat}{bs:List Nat}(h8:∀x∈bs,x<=255):(efR bound bs).2.1<=bs.length:=by
 have ha:pZ bound bs 0 0<=bs.length:=kfZ h8 0 (by omega)
 unfold efR
 split
 ·exact Nat.zero_le _
 ·split
  ·exact ha
  ·have h:=mzZ (bound:=bound) (n:=tZ bound bs 0 0) (z:=bs.length-pZ bound bs 0 0) (bs:=ubZ (bs.drop (pZ bound bs 0 0))) (by rw[nbZ,List.length_drop])
   unfold efG
   split
   ·exact Nat.zero_le _
   ·simp only;omega
theorem ListAt.mono{w:World}{base base':Nat}{p:Value}{ids:List Nat}(h:ListAt w base p ids)(hb:base'<=base):ListAt w base' p ids:=by
 obtain⟨g,W,vH,vL,h1,h2,h3,h4,h5⟩:=h
 exact⟨g,W,vH,vL,h1,h2,h3,h4,h5.mono hb⟩
set_option maxHeartbeats 1000000 in
theorem meZb(w:World)(A:Option Addr)(m c bound:Nat)(bs:List Nat)(hm:bs.length=m)(hle:m<=100000)(h8:∀x∈bs,x<=255)(hc:m<=c)(hnil:A=none->m=0/\c=0)(ha:Row w w.heap.size A m 1 (mZ .u8 bs))(hb:bound<=20000):
 Calls Tryz.prog 169 #[.int .i64 (bound:Nat), .slice A m c] w (vnZ w (efR bound bs)):=by
 have D0:=hid (new_any w A m c bs hm hle hnil ha)
 have hle':bs.length<=100000:=by omega
 have D1:=hid (fun wx g B d h=>mhZ wx g w.heap.size bs B d 0 0 bound hle' h8 (by omega) h)
 have gneg:decide ((bound:Int)<0)=false:=by simp
 have gbig:decide ((20000:Int)<(bound:Int))=false:=by simp;omega
 have gbig':decide (20000<bound)=false:=by simp;omega
 obtain⟨R,hR⟩:∃R,R=efR bound bs:=⟨_,rfl⟩
 rw[<-hR]
 have hvb:tZ bound bs 0 0<=bound:=qbZ h8 0 0
 have hal:pZ bound bs 0 0<=bs.length:=kfZ h8 0 (by omega)
 unfold efR at hR
 generalize qZ bound bs 0 0=ie at *
 generalize tZ bound bs 0 0=n at *
 generalize pZ bound bs 0 0=a at *
 have ha2:Row w w.heap.size (sZ A a c 1) (m-a) 1 (mZ .u8 (bs.drop a)):=by have h:=uZ (hm ▸ ha:Row w w.heap.size A bs.length 1 (mZ .u8 bs)) hal (by omega:bs.length<=c);rw[hm]at h;exact h
 have hnil2:sZ A a c 1=none->m-a=0/\c-a=0:=fun h=>by
  have hA:A=none:=by
   unfold sZ at h
   split at h
   ·exact h
   ·cases A with
    |none=>rfl
    |some x=>cases h
  have:=hnil hA
  omega
 have DR:=hid (fun wx (hbx:Below w.heap.size w wx) (h1:1<=n)=>fkZb wx (sZ A a c 1) (m-a) (c-a) bound n (bs.drop a) (by rw[List.length_drop,hm]) (by omega) (fun x hx=>h8 x (List.mem_of_mem_drop hx)) hnil2 ((ha2.below hbx).mono hbx.size) h1 hvb hb)
 have ks:=fun wx=>vcZ (P:=Tryz.prog) (t:=22) (s:=1) Tryz.underlying22 (fun _=>by kernel_rfl) A m c .i64 (a:Int) a rfl (by omega) wx
 have HR:=hid hR
 generalize sZ A a c 1=A2 at *
 have HTL:Hid ((ajZ bound n (ubZ (bs.drop a))).2.1<=m-a):=mzZ (by rw[nbZ,List.length_drop,hm])
 generalize ajZ bound n (ubZ (bs.drop a))=T at *
 have ham:a<=m:=by omega
 clear hm h8 hnil ha hR ha2 hnil2 hvb hal
 go_enter Tryz.func169,Tryz.ntmps169
 go_wp2_with fail
 refine D0.out.mono ?_
 rintro e w1 ⟨g,B,d,rfl,hc1,hb1⟩
 have DI:=hid (D1.out w1 g B d hc1)
 have HB1:=hid hb1
 have hglo:=hc1.lo
 have zw1:=hb1.size
 clear hc1 hb1 D0 D1
 go_wp2_with fail
 refine DI.out.mono ?_
 rintro e w2 ⟨rfl,hc2,hk2⟩
 have HB2:Hid (Below w.heap.size w w2):=HB1.out.trans (hk2.below fun b h=>⟨by omega,by omega⟩)
 have DE:=hid (lcZ w2 g w.heap.size bs B d a ie hc2)
 have DA:=hid (fun wx (hb:Below w2.heap.size w2 wx)=>xiZ wx g w.heap.size bs B d a ie (hc2.step hb))
 clear hc2 hk2 HB1 DI
 go_wp2_with fail
 refine DE.out.mono ?_
 rintro e w3 ⟨rfl,rfl⟩
 by_cases hie:ie=0
 ·have gE:(ie != 0)=false:=by rw[hie];rfl
  by_cases hn0:n=0
  ·subst hn0
   have HR0:Hid (R=([],a,0)):=by have h:=HR.out;rw[if_neg (by simp[hie]),if_pos rfl]at h;exact h
   have DA2:=hid (DA.out (w3.alloc (.cells #[.int .i64 0, .slice none 0 0, .slice none 0 0] 286)) (aZ (Below.refl _ _)))
   clear HR hie DR DA DE
   go_wp2_with fail
   refine DA2.out.mono ?_
   rintro e w4 ⟨rfl,rfl⟩
   go_wp2_with fail
   go_ret3
   rw[HR0.out]
   exact⟨gZ HB2.out.size HB2.out,fun h=>absurd rfl h,fun _=>⟨_,rfl,w3.heap.size,0, .slice none 0 0, .slice none 0 0,rfl,by omega,by simp,(fun x hx=>by simp at hx),⟨Blk.made _ _ _,World.ownsRow_nil _ _ _ _,World.ownsRow_nil _ _ _ _,HB2.out.size⟩⟩⟩
  ·have gn:((n:Int)==0)=false:=by rw[beq_eq_false_iff_ne];omega
   have gn':(n==0)=false:=by rw[beq_eq_false_iff_ne];omega
   have HR0:Hid (R=efG a T):=by have h:=HR.out;rw[if_neg (by simp[hie]),if_neg hn0]at h;exact h
   have DA1:=hid (DA.out w3 (Below.refl _ _))
   have DR1:=hid (fun wx hbx=>DR.out wx hbx (by omega))
   clear HR hie hn0 DR DE
   go_wp2_with fail
   refine DA1.out.mono ?_
   rintro e w4 ⟨rfl,rfl⟩
   go_wp2_with fail
   refine(DR1.out _ HB2.out).mono ?_
   rintro e w5 ⟨hb5,hbad,hok⟩
   have HB5:Hid (Below w.heap.size w w5):=HB2.out.trans (hb5.mono HB2.out.size)
   by_cases hT:T.2.2=0
   ·obtain⟨p,rfl,hL⟩:=hok hT
    have HL:=hid hL
    have HRT:Hid (R=(T.1,a+T.2.1,0)):=by show _=_;rw[HR0.out];unfold efG;exact if_neg (by simp[hT])
    have DA5:=hid (DA.out w5 hb5)
    have zz:=HB2.out.size
    have htl:=HTL.out
    obtain⟨t1,ht1⟩:∃t1,t1=T.2.1:=⟨_,rfl⟩
    rw[<-ht1]at HRT htl
    have s1:IntKind.i64.wrap ((a:Int)+(t1:Int))=((a+t1:Nat):Int):=by rw[IntWalk.i64_in _ (by omega)];omega
    rw[<-ht1]
    clear hb5 hbad hok hL HR0 hT DA DA1 DR1 HTL ht1
    go_wp2_with fail
    refine DA5.out.mono ?_
    rintro e w6 ⟨rfl,rfl⟩
    go_wp2_with fail
    go_ret3
    rw[HRT.out]
    exact⟨HB5.out,fun h=>absurd rfl h,fun _=>⟨_,rfl,HL.out.mono zz⟩⟩
   ·have he:=hbad hT
    subst he
    have gT:(T.2.2 != 0)=true:=by simpa using hT
    have HRT:Hid (R=([],0,T.2.2)):=by show _=_;rw[HR0.out];unfold efG;exact if_pos hT
    have HNE:=hid hT
    clear hb5 hbad hok HR0 hT DA DA1 DR1 HTL
    generalize T.2.2=te at *
    go_wp2_with fail
    go_ret3
    exact oiZ HRT.out HNE.out HB5.out
 ·have gE:(ie != 0)=true:=by simpa using hie
  have HR0:Hid (R=([],0,ie)):=by have h:=HR.out;rw[if_pos hie]at h;exact h
  have HNE:=hid hie
  clear hie HR DR DA DE
  go_wp2_with fail
  go_ret3
  exact oiZ HR0.out HNE.out HB2.out
end Go.Proofs.YtbgoibedicbkjaaGreatDoor.Ef
