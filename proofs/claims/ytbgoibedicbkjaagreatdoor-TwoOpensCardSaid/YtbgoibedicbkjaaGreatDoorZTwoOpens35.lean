/- The walk of the reference's Read of an index. The reference's Body in  -/
import Derived.Test.YtbgoibedicbkjaaGreatDoorZTwoOpens28
import Derived.Test.YtbgoibedicbkjaaGreatDoorZTwoOpens33
import Derived.Test.YtbgoibedicbkjaaGreatDoorZTwoOpens34
import Derived.Test.YtbgoibedicbkjaaGreatDoorZTwoOpens30
import Derived.Test.YtbgoibedicbkjaaGreatDoorZTwoOpens19
import Derived.Test.YtbgoibedicbkjaaGreatDoorZTwoOpens20
import Derived.Test.YtbgoibedicbkjaaGreatDoorZTwoOpens12
import Derived.Test.YtbgoibedicbkjaaGreatDoorZTwoOpens32
namespace Go.Proofs.YtbgoibedicbkjaaGreatDoor end Go.Proofs.YtbgoibedicbkjaaGreatDoor open Go.Proofs.YtbgoibedicbkjaaGreatDoor
open Go.Lib (hid)
set_option maxHeartbeats 10000000
set_option maxRecDepth 100000
namespace Go.Proofs.YtbgoibedicbkjaaGreatDoor.Idx
open Go.RowKit Mem Own Canon Sift
open NumPut Recs Go.Proofs.YtbgoibedicbkjaaGreatDoor Crc Block
open Ef Nums
theorem LsAt.set{w:World}{base b:Nat}{vL:Value}{vals:List Value}{acc:List (List Nat)}{cs:Array Value}(h:LsAt w base vL vals acc)(hob:Blk w b 36 cs)(k:Nat)(u:Value):LsAt (w.setCell ⟨b,k,none⟩ u) base vL vals acc:=
 ⟨vZ h.l (jZ h.l hob (by decide)) _,fun i v ids hv hi=>vZ (h.r i v ids hv hi) (jZ (h.r i v ids hv hi) hob (by decide)) _⟩
theorem cut_none{A:Option Addr}{m c k:Nat}(hnil:A=none->m=0/\c=0):sZ A k c 1=none->m-k=0/\c-k=0:=fun h=>by
 have hA:A=none:=by
  unfold sZ at h
  split at h
  ·exact h
  ·cases A with
   |none=>rfl
   |some x=>cases h
 have:=hnil hA
 omega
structure RIx (w wr:World) (gx:Nat) (vT:Value) (ts:List Str) (Av:Option Addr) (k cv:Nat) (vals:List Value) (acc:List (List Nat)):Prop where
 bx:Blk wr gx 36 #[vT, .slice Av k cv]
 br:Blk wr w.heap.size 36 #[.slice none 0 0, .slice none 0 0]
 ls:LsAt wr w.heap.size (.slice Av k cv) vals acc
 ot:wr.ownsRow w.heap.size 9 1 vT ts.length (ccZ ts)
 bel:Below w.heap.size w wr
 ne:w.heap.size<gx
theorem RIx.step{w wr w':World}{gx:Nat}{vT:Value}{ts:List Str}{Av:Option Addr}{k cv:Nat}{vals:List Value}{acc:List (List Nat)}(h:RIx w wr gx vT ts Av k cv vals acc)(hb:Below wr.heap.size wr w'):RIx w w' gx vT ts Av k cv vals acc:=
 ⟨h.bx.step hb,h.br.step hb,h.ls.step hb,eZ h.ot (fun y hy=>hb.block y (World.ownsRow.lt h.ot y hy).2),h.bel.trans (hb.mono h.bel.size),h.ne⟩
theorem RIx.add{w wr w7:World}{gx:Nat}{vT:Value}{ts:List Str}{Av A7:Option Addr}{k cv c7:Nat}{vals:List Value}{acc:List (List Nat)}{u:Value}{ids:List Nat}(h:RIx w wr gx vT ts Av k cv vals acc)(hu:wr.ownsRow w.heap.size 3 1 u ids.length (cZ .i64 ids))(hk:acc.length=k)(hg:wr.grownBy w7 (Value.slice Av k cv).ownBlock)(hown:w7.ownsRow w.heap.size 30 1 (.slice A7 (k+1) c7) (k+1) (vals++ [u])):
 RIx w (w7.setCell ⟨gx,1,none⟩ (.slice A7 (k+1) c7)) gx vT ts A7 (k+1) c7 (vals++ [u]) (acc++ [ids]):=by
 have b7:=h.bx.grown hg (Ne.symm (jZ h.ls.l h.bx (by decide)))
 have r7:=h.br.grown hg (Ne.symm (jZ h.ls.l h.br (by decide)))
 have hne:=h.ne
 have hls:=h.ls.add hu hg (by rw[hk];exact hown)
 exact⟨by simpa using b7.set 1 (.slice A7 (k+1) c7),r7.far (by show _≠gx;omega) _,hls.set b7 1 _,vZ (own_far h.ot h.ls.l (by decide) hg) (jZ (own_far h.ot h.ls.l (by decide) hg) b7 (by decide)) _,fZ (by show _<=gx;omega) (h.bel.grown hg h.bel.size (fun y hy=>(World.ownsRow.lt h.ls.l y hy).1)),h.ne⟩
theorem apZ(w:World)(A:Option Addr)(m c size bound:Nat)(ls:List Nat)(hm:ls.length=m)(hle:m<=100000)(h8:∀x∈ls,x<=255)(hc:m<=c)(hnil:A=none->m=0/\c=0)(ha:Row w w.heap.size A m 1 (mZ .u8 ls))(hs1:1<=size)(hs2:size<=64)(hb:bound<=20000):
 Calls Tryz.prog 72 #[.int .i64 (size:Nat), .int .i64 (bound:Nat), .slice A m c] w (pjZ w (ixR size bound ls)):=by
 obtain⟨j0,hj0,hy0,hy1,hy2⟩:=info_parts ypZ
 have HRO:Hid (∀wx,Below w.heap.size w wx->Row wx wx.heap.size A m 1 (mZ .u8 ls)):=fun wx h=>(ha.below h).mono h.size
 have D0:=hid (fun wx (h:Below w.heap.size w wx)=>jyZ wx A m c size ls hm hle h8 hnil (HRO.out wx h) hs1 hs2)
 have gs1:decide ((size:Int)<1)=false:=by simp;omega
 have gs1':decide (size<1)=false:=by simp;omega
 have gs2:decide ((64:Int)<(size:Int))=false:=by simp;omega
 have gs2':decide (64<size)=false:=by simp;omega
 have gneg:decide ((bound:Int)<0)=false:=by simp
 have gbig:decide ((20000:Int)<(bound:Int))=false:=by simp;omega
 have gbig':decide (20000<bound)=false:=by simp;omega
 obtain⟨R,hR⟩:∃R,R=ixR size bound ls:=⟨_,rfl⟩
 rw[<-hR]
 unfold ixR at hR
 obtain⟨hdl,hdn⟩:=jmZ (size:=size) h8
 generalize zdZ size ls=T at *
 obtain⟨ts,t1,te⟩:=T
 simp only at hR hdl hdn
 unfold lnZ at D0
 simp only at D0
 rw[hm]at hdl
 have HHB:=hid hb
 have H8:=hid h8
 have HM:=hid hm
 have HN0:=hid hnil
 have HA0:=hid ha
 have HR:=hid hR
 unfold pjZ
 clear hR ha h8 hnil hm HRO
 go_enter Tryz.func72,Tryz.ntmps72
 go_wp2_with fail
 have hb1:Below w.heap.size w (w.alloc (.cells #[.slice none 0 0, .slice none 0 0] 36)):=aZ (Below.refl _ _)
 have hx1:Blk (w.alloc (.cells #[.slice none 0 0, .slice none 0 0] 36)) w.heap.size 36 #[.slice none 0 0, .slice none 0 0]:=Blk.made _ _ _
 have hz1:w.heap.size+1<=(w.alloc (.cells #[.slice none 0 0, .slice none 0 0] 36)).heap.size:=by simp
 have D1:=hid (D0.out _ hb1)
 generalize w.alloc (.cells #[.slice none 0 0, .slice none 0 0] 36)=w1 at *
 have HB1:=hid hb1
 have HX1:=hid hx1
 clear hb1 hx1 D0
 refine D1.out.mono ?_
 rintro e w2 ⟨vT,rfl,hot,hb2⟩
 have HB2:Hid (Below w.heap.size w w2):=HB1.out.trans (hb2.mono (by omega))
 have HX2:=hid (HX1.out.step hb2)
 have z2:=hb2.size
 have HOT:=hid hot
 obtain⟨n,hn⟩:∃n,n=ts.length:=⟨_,rfl⟩
 rw[<-hn]at hot hdn
 obtain⟨At,ct,rfl⟩:=bZ hot
 have HNN:=hid hn
 clear hb2 hot hn D1 HB1 HX1
 by_cases ht:te=0
 ·subst ht
  have hr:=HR.out
  rw[if_neg (show ¬((0:Int)≠0) from fun h=>h rfl),<-HNN.out]at hr
  obtain⟨L,hL⟩:∃L,L=lsR bound (ls.drop t1) n 0 []:=⟨_,rfl⟩
  rw[<-hL]at hr
  unfold ixF at hr
  have HR2:=hid hr
  have HL0:Hid (lsR bound (ls.drop t1) (n-0) 0 []=L):=hL.symm
  clear hr hL HR
  go_wp2_with fail
  have hb3:Below w2.heap.size w2 (w2.alloc (.cells #[.slice At n ct, .slice none 0 0] 36)):=aZ (Below.refl _ _)
  have HI3:Hid (RIx w (w2.alloc (.cells #[.slice At n ct, .slice none 0 0] 36)) w2.heap.size (.slice At n ct) ts none 0 0 [] []):=⟨Blk.made _ _ _,HX2.out.step hb3,LsAt.nil _ _,lZ ((HOT.out).alloc _) (by omega),HB2.out.trans (hb3.mono (by omega)),by omega⟩
  generalize hgx:w2.heap.size=gx at *
  generalize w2.alloc (.cells #[.slice At n ct, .slice none 0 0] 36)=w3 at *
  have hgw:w.heap.size<gx:=by omega
  clear hb3 HX2 HOT HB2 hgx z2
  go_loopw [12,9] (fun iv av wr=>∃ (k r cv:Nat) (Av:Option Addr) (acc:List (List Nat)) (vals:List Value),k<=n/\t1+r<=m/\iv= .int .i64 k/\av= .int .i64 ((t1+r:Nat):Int)/\Hid (acc.length=k)/\Hid (RIx w wr gx (.slice At n ct) ts Av k cv vals acc)/\Hid (lsR bound (ls.drop t1) (n-k) r acc=L)) (fun iv _ _=>n-(intOf iv).toNat)
  case atStart=>exact⟨0,0,0,none,[],[],by omega,by omega,rfl,by first|rfl|go_num,rfl,HI3.out,HL0.out⟩
  case round=>
   obtain⟨k,r,cv,Av,acc,vals,hk,hr,rfl,rfl,HL,HI,HG⟩:=hrel
   obtain⟨a,hA⟩:∃a,a=t1+r:=⟨_,rfl⟩
   rw[<-hA]at hr ⊢
   have HAR:=hid hA
   clear hA HI3 HL0
   have zr:=HI.out.bel.size
   by_cases hkn:k<n
   ·have gk:decide ((k:Int)<(n:Int))=true:=by simp;omega
    have gk':decide (k<n)=true:=by simp;omega
    have hG:=HG.out
    rw[show n-k=(n-(k+1))+1 by omega,lsR,List.drop_drop,<-HAR.out]at hG
    have h8d:∀x∈ls.drop a,x<=255:=fun x hx=>H8.out x (List.mem_of_mem_drop hx)
    have hlen:(ls.drop a).length=m-a:=by rw[List.length_drop,HM.out]
    have hnr:=uZ (HM.out ▸ HA0.out:Row w w.heap.size A ls.length 1 (mZ .u8 ls)) (by have:=HM.out;omega:a<=ls.length) (by have:=HM.out;omega:ls.length<=c)
    rw[HM.out]at hnr
    have DR:=iyZ wr (sZ A a c 1) (m-a) (c-a) bound (ls.drop a) hlen (by omega) h8d (by omega) (cut_none HN0.out) ((hnr.below HI.out.bel).mono zr) HHB.out
    have ks:=fun wx=>vcZ (P:=Tryz.prog) (t:=22) (s:=1) Tryz.underlying22 (fun _=>by kernel_rfl) A m c .i64 (a:Int) a rfl hr wx
    have htl:=leZb (bound:=bound) h8d
    rw[hlen]at htl
    unfold dsZ at DR
    generalize efR bound (ls.drop a)=T at *
    obtain⟨ids,t2,te2⟩:=T
    simp only at hG htl DR
    generalize sZ A a c 1=A2 at *
    generalize c-a=c2 at *
    have hma:m-a+a=m:=by omega
    generalize m-a=m2 at *
    have HGG:=hid hG
    have DR:=hid DR
    clear hG HG h8d hlen hnr
    go_wp2_with fail
    refine DR.out.mono ?_
    rintro e w4 ⟨v4,rfl,ho4,hb4⟩
    have HI4:=hid (HI.out.step hb4)
    have HO4:=hid (lZ ho4 zr)
    obtain⟨Q,hQ⟩:∃Q,Q=ids.length:=⟨_,rfl⟩
    rw[<-hQ]at ho4
    obtain⟨A4,c4,rfl⟩:=bZ ho4
    have HQ:=hid hQ
    have k0:=HI4.out.br.cell 0
    have k1:=HI4.out.br.cell 1
    have f0:=HI4.out.br.frozen 0
    have f1:=HI4.out.br.frozen 1
    have q1:=HI4.out.bx.cell 1
    simp only[List.getElem?_toArray,List.getElem?_cons_zero,List.getElem?_cons_succ]at k0 k1 q1
    have z4:=hb4.size
    clear ho4 hb4 hQ DR HI
    by_cases ht2:te2=0
    ·subst ht2
     have hG:=HGG.out
     rw[if_neg (show ¬((0:Int)≠0) from fun h=>h rfl),<-HQ.out]at hG
     by_cases h0:Q=0
     ·have gz:((Q:Int)==0)=true:=by rw[h0];rfl
      have HF:Hid (R=(([],[]),2)):=by
       rw[if_pos h0]at hG
       have h:=HR2.out
       rw[<-hG]at h
       rw[show R=_ from h]
       exact if_pos (show(2:Int)≠0 by decide)
      have HX:=hid HI4.out.br
      have HBW:=hid HI4.out.bel
      clear h0 hG HGG
      go_wp2_with fail
      rw[HF.out]
      refine bodyPost_ret (v:= .tuple #[.agg #[.slice none 0 0, .slice none 0 0], .int .i64 2]) ?_ rfl ⟨_,_,[],rfl,piZ _ _,?_⟩
      ·have hx3:=(HX.out.set 0 (.slice none 0 0)).set 1 (.slice none 0 0)
       have e0:=hx3.cell 0
       have e1:=hx3.cell 1
       simp at e0 e1
       simp[results,Tryz.results72,go_sem,e0,e1]
      ·exact fZ (Nat.le_refl _) (fZ (Nat.le_refl _) HBW.out)
     ·have gz:((Q:Int)==0)=false:=by rw[beq_eq_false_iff_ne];omega
      rw[if_neg h0]at hG
      have sa:IntKind.i64.wrap ((a:Int)+(t2:Int))=((a+t2:Nat):Int):=by rw[IntWalk.i64_in _ (by omega)];omega
      have HG2:=hid hG
      have HOL:Hid (w4.ownsRow w.heap.size 30 1 (.slice Av k cv) k vals):=by have h:=HI4.out.ls.l;rw[HL.out]at h;exact h
      have zz4:=HI4.out.bel.size
      clear h0 hG HGG k0 k1 f0 f1
      go_wp2_with(at_builtin;refine kZ rfl (.tmp 68) (.tmp 70) 34 rfl w.heap.size 30 j0 _ 1 24 Tryz.underlying34 hj0 hy0 hy1 hy2 rfl (by decide) _ _ _ (by rfl) (HOL.out.alloc _) _ 1 1 [.slice A4 Q c4] (by rfl) (Src.of_blk (Blk.made_at _ _ _ (by simp)) 1 1 1 rfl) (by intro u hu;simp at hu;rcases hu with rfl;rfl) (by unfold maxLen;omega) (by omega) (by simp;omega) ?_;intro v7 w7 hown7 hg7 hat7;obtain⟨A7,c7,rfl⟩:=bZ hown7;have hi5:=HI4.out.step (aZ (o:= .cells #[.slice A4 Q c4] 30) (Below.refl w4.heap.size w4));have b7:=hi5.bx.grown hg7 (Ne.symm (jZ hi5.ls.l hi5.bx (by decide)));have p1:=b7.cell 1;have r1:=b7.frozen 1;simp only[List.getElem?_toArray,List.getElem?_cons_zero,List.getElem?_cons_succ]at p1;have HI7:=hid (hi5.add (eZ HO4.out (fun y hy=>(Below.heap_alloc w4 _ y (World.ownsRow.lt HO4.out y hy).2))) HL.out hg7 hown7);clear hi5 hown7 hg7 hat7 b7)
      go_roundw
      case measure=>go_light;simp[intOf];omega
      case rel=>go_light;exact⟨k+1,r+t2,c7,A7,acc++ [ids],vals++ [Value.slice A4 Q c4],by omega,by have:=HAR.out;omega,by first|rfl|go_num,by(have h:=HAR.out);first|rfl|(refine congrArg (Value.int .i64) ?_;omega)|go_num,by show _=_;rw[List.length_append,HL.out];rfl,HI7.out,HG2.out⟩
    ·have gE:(te2 != 0)=true:=by simpa using ht2
     have HF:Hid (R=(([],[]),te2)):=by
      have h:=HGG.out
      rw[if_pos ht2]at h
      have h2:=HR2.out
      rw[<-h]at h2
      rw[show R=_ from h2]
      exact if_pos ht2
     have HX:=hid HI4.out.br
     have HBW:=hid HI4.out.bel
     obtain⟨er,her⟩:∃er:Int,er=te2:=⟨_,rfl⟩
     have hbx:=her
     subst her
     clear ht2 HGG
     clear hbx
     go_wp2_with fail
     rw[HF.out]
     refine bodyPost_ret (v:= .tuple #[.agg #[.slice none 0 0, .slice none 0 0], .int .i64 er]) ?_ rfl ⟨_,_,[],rfl,piZ _ _,?_⟩
     ·have hx3:=(HX.out.set 0 (.slice none 0 0)).set 1 (.slice none 0 0)
      have e0:=hx3.cell 0
      have e1:=hx3.cell 1
      simp at e0 e1
      simp[results,Tryz.results72,go_sem,e0,e1]
     ·exact fZ (Nat.le_refl _) (fZ (Nat.le_refl _) HBW.out)
   ·obtain rfl:k=n:=by omega
    have gk:decide ((k:Int)<(k:Int))=false:=by simp
    have hG:=HG.out
    rw[Nat.sub_self,lsR,List.length_drop,HM.out]at hG
    have k0:=HI.out.br.cell 0
    have k1:=HI.out.br.cell 1
    have f0:=HI.out.br.frozen 0
    have f1:=HI.out.br.frozen 1
    have q0:=HI.out.bx.cell 0
    have q1:=HI.out.bx.cell 1
    simp only[List.getElem?_toArray,List.getElem?_cons_zero,List.getElem?_cons_succ]at k0 k1 q0 q1
    by_cases hlt:a<m
    ·have gl:decide ((a:Int)<(m:Int))=true:=by simp;omega
     have gl':decide (a<m)=true:=by simp;omega
     have HF:Hid (R=(([],[]),2)):=by
      rw[if_pos (by have:=HAR.out;omega)]at hG
      have h:=HR2.out
      rw[<-hG]at h
      rw[show R=_ from h]
      exact if_pos (show(2:Int)≠0 by decide)
     have HX:=hid HI.out.br
     have HBW:=hid HI.out.bel
     clear hlt hG HG q0 q1
     go_wp2_with fail
     rw[HF.out]
     refine bodyPost_ret (v:= .tuple #[.agg #[.slice none 0 0, .slice none 0 0], .int .i64 2]) ?_ rfl ⟨_,_,[],rfl,piZ _ _,?_⟩
     ·have hx3:=(HX.out.set 0 (.slice none 0 0)).set 1 (.slice none 0 0)
      have e0:=hx3.cell 0
      have e1:=hx3.cell 1
      simp at e0 e1
      simp[results,Tryz.results72,go_sem,e0,e1]
     ·exact fZ (Nat.le_refl _) (fZ (Nat.le_refl _) HBW.out)
    ·have gl:decide ((a:Int)<(m:Int))=false:=by simp;omega
     have gl':decide (a<m)=false:=by simp;omega
     have HF:Hid (R=((ts,acc),0)):=by
      rw[if_neg (by have:=HAR.out;omega)]at hG
      have h:=HR2.out
      rw[<-hG]at h
      rw[show R=_ from h]
      exact if_neg (fun h=>h rfl)
     clear hlt hG HG
     go_wp2_with fail
     rw[HF.out]
     refine bodyPost_ret (v:= .tuple #[.agg #[.slice At k ct, .slice Av k cv], .int .i64 0]) ?_ rfl ⟨_,_,vals,rfl,?_,?_⟩
     ·have hx3:=(HI.out.br.set 0 (.slice At k ct)).set 1 (.slice Av k cv)
      have e0:=hx3.cell 0
      have e1:=hx3.cell 1
      simp at e0 e1
      simp[results,Tryz.results72,go_sem,e0,e1]
     ·have hix:IxAt wr w.heap.size (.slice At k ct) (.slice Av k cv) vals ts acc:=⟨HI.out.ot,HI.out.ls.l,HI.out.ls.r⟩
      exact(hix.set HI.out.br 0 _).set (HI.out.br.set 0 _) 1 _
     ·exact fZ (Nat.le_refl _) (fZ (Nat.le_refl _) HI.out.bel)
 ·have gE:(te != 0)=true:=by simpa using ht
  have HF:Hid (R=(([],[]),te)):=by have h:=HR.out;rw[if_pos ht]at h;exact h
  have k0:=HX2.out.cell 0
  have k1:=HX2.out.cell 1
  have f0:=HX2.out.frozen 0
  have f1:=HX2.out.frozen 1
  simp only[List.getElem?_toArray,List.getElem?_cons_zero,List.getElem?_cons_succ]at k0 k1
  have HX:=HX2
  have HBW:=HB2
  obtain⟨er,her⟩:∃er:Int,er=te:=⟨_,rfl⟩
  have hbx:=her
  subst her
  clear ht HR HOT
  clear hbx
  go_wp2_with fail
  rw[HF.out]
  refine bodyPost_ret (v:= .tuple #[.agg #[.slice none 0 0, .slice none 0 0], .int .i64 er]) ?_ rfl ⟨_,_,[],rfl,piZ _ _,?_⟩
  ·have hx3:=(HX.out.set 0 (.slice none 0 0)).set 1 (.slice none 0 0)
   have e0:=hx3.cell 0
   have e1:=hx3.cell 1
   simp at e0 e1
   simp[results,Tryz.results72,go_sem,e0,e1]
  ·exact fZ (Nat.le_refl _) (fZ (Nat.le_refl _) HBW.out)
end Go.Proofs.YtbgoibedicbkjaaGreatDoor.Idx
namespace Go.Proofs.YtbgoibedicbkjaaGreatDoor.Body
open Go.RowKit Mem Own Canon Nums Crc Recs
open Opts
open Go.Proofs.YtbgoibedicbkjaaGreatDoor.Idx (Str IxAt)
theorem wwZ(ls:List Nat){r a x:Nat}(h:a+x<=r):((ls.take r).drop a).take x=(ls.drop a).take x:=by
 rw[List.drop_take,List.take_take,Nat.min_eq_left (by omega)]
theorem mfZb{w:World}{g base base' c at_:Nat}{bs:List Nat}{A:Option Addr}{er:Int}(h:RCur w g base bs A c at_ er)(hb:base'<=base):RCur w g base' bs A c at_ er:=⟨h.blk,lZ h.own hb,h.le,Nat.le_trans hb h.lo⟩
theorem xwZ{C:List Nat}{r:Nat}{zb rb:Bool}(h:zb=decide (0∈C))(hr:rb=decide (r=0)):(zb || rb)=decide (0∈C++ [r]):=by
 rw[h,hr,<-Bool.decide_or,decide_eq_decide,List.mem_append,List.mem_singleton]
 constructor
 ·rintro(h|h)
  ·exact .inl h
  ·exact .inr h.symm
 ·rintro(h|h)
  ·exact .inl h
  ·exact .inr h.symm
def zero6:List Value:= [.slice none 0 0, .slice none 0 0, .slice none 0 0, .slice none 0 0, .slice none 0 0, .slice none 0 0]
def mnZ(w:World)(base:Nat)(v:Value)(b:List Nat):Prop:=∃A n c,v= .slice A n c/\n<=c/\b.length=n/\(A=none->n=0/\c=0)/\Row w base A n 1 (mZ .u8 b)
structure RbI (w3 wr:World) (gx g:Nat) (D:List Nat) (B:Option Addr) (d at_:Nat) (er:Int) (C S:List Nat) (vc vs:Value):Prop where
 cur:RCur wr g w3.heap.size D B d at_ er
 bx:Blk wr gx 38 #[vc, .slice none 0 0, .slice none 0 0, .slice none 0 0, .slice none 0 0, .slice none 0 0]
 oc:wr.ownsRow w3.heap.size 3 1 vc C.length (cZ .i64 C)
 os:wr.ownsRow w3.heap.size 3 1 vs S.length (cZ .i64 S)
 ap:∀y,vc.ownBlock=some y->vs.ownBlock≠some y
 bel:Below w3.heap.size w3 wr
 lo:w3.heap.size<=gx
section
variable {w3 wr w2 w5:World} {gx g:Nat} {D:List Nat} {B:Option Addr} {d at_ a2:Nat} {er e2:Int} {C S:List Nat} {vc vs v5:Value} {x:Nat} {o:Obj}
theorem RbI.call(h:RbI w3 wr gx g D B d at_ er C S vc vs)(hc2:RCur w2 g w3.heap.size D B d a2 e2)(hk2:Kept (ebZ g wr) wr w2):RbI w3 w2 gx g D B d a2 e2 C S vc vs:=
 have hlo:=h.cur.lo
 have hz:=h.bel.size
 ⟨hc2,(hk2.block gx ⟨h.bx.lt,fun e=>Blk.apart h.bx h.cur.blk (by decide) e⟩).trans h.bx,eZ h.oc (fun y hy=>hk2.block y ⟨(World.ownsRow.lt h.oc y hy).2,fun e=>jZ h.oc h.cur.blk (by decide) (e ▸ hy)⟩),eZ h.os (fun y hy=>hk2.block y ⟨(World.ownsRow.lt h.os y hy).2,fun e=>jZ h.os h.cur.blk (by decide) (e ▸ hy)⟩),h.ap,h.bel.trans (hk2.below fun y hy=>⟨by omega,by omega⟩),h.lo⟩
theorem RbI.count(h:RbI w3 wr gx g D B d at_ er C S vc vs)(hg:(wr.alloc o).grownBy w5 vc.ownBlock)(hown:w5.ownsRow w3.heap.size 3 1 v5 (C.length+1) (cZ .i64 C++ [.int .i64 (x:Nat)]))(hat:v5.ownBlock=vc.ownBlock∨v5.ownBlock=some (wr.alloc o).heap.size):RbI w3 (w5.setCell ⟨gx,0,none⟩ v5) gx g D B d at_ er (C++ [x]) S v5 vs:=by
 have hlo:=h.lo
 have hz:=h.bel.size
 have b5:=(h.bx.alloc o).grown hg (Ne.symm (jZ h.oc h.bx (by decide)))
 have c1:=h.cur.step (aZ (o:=o) (Below.refl _ _))
 have oc1:=h.oc.alloc o
 have c5:RCur w5 g w3.heap.size D B d at_ er:=⟨c1.blk.grown hg (Ne.symm (jZ oc1 c1.blk (by decide))),own_far c1.own oc1 (by decide) hg,c1.le,c1.lo⟩
 have o1:=h.os.alloc o
 have o5:w5.ownsRow w3.heap.size 3 1 vs S.length (cZ .i64 S):=eZ o1 (fun y hy=>hg.block y (World.ownsRow.lt o1 y hy).2 (fun e=>h.ap y e.symm hy))
 refine⟨⟨c5.blk.far (fun e=>Blk.apart b5 c5.blk (by decide) e.symm) _,vZ c5.own (jZ c5.own b5 (by decide)) _,c5.le,c5.lo⟩,by simpa using b5.set 0 v5,?_,vZ o5 (jZ o5 b5 (by decide)) _,?_,?_,h.lo⟩
 ·rw[List.length_append,show cZ .i64 (C++ [x])=cZ .i64 C++ [.int .i64 (x:Nat)] by simp[cZ]]
  exact vZ hown (jZ hown b5 (by decide)) _
 ·intro y hy hh
  rcases hat with e|e
  ·exact h.ap y (by rw[<-e];exact hy) hh
  ·rw[e]at hy
   injection hy with hy
   have:=(World.ownsRow.lt h.os y hh).2
   simp at hy
   omega
 ·exact fZ (by show _<=gx;omega) ((gZ hz h.bel).grown hg (by simp;omega) (fun y hy=>(World.ownsRow.lt oc1 y hy).1))
theorem RbI.size(h:RbI w3 wr gx g D B d at_ er C S vc vs)(hg:(wr.alloc o).grownBy w5 vs.ownBlock)(hown:w5.ownsRow w3.heap.size 3 1 v5 (S.length+1) (cZ .i64 S++ [.int .i64 (x:Nat)]))(hat:v5.ownBlock=vs.ownBlock∨v5.ownBlock=some (wr.alloc o).heap.size):RbI w3 w5 gx g D B d at_ er C (S++ [x]) vc v5:=by
 have hlo:=h.lo
 have hz:=h.bel.size
 have os1:=h.os.alloc o
 have b5:=(h.bx.alloc o).grown hg (Ne.symm (jZ h.os h.bx (by decide)))
 have c1:=h.cur.step (aZ (o:=o) (Below.refl _ _))
 have o1:=h.oc.alloc o
 refine⟨⟨c1.blk.grown hg (Ne.symm (jZ os1 c1.blk (by decide))),own_far c1.own os1 (by decide) hg,c1.le,c1.lo⟩,b5,eZ o1 (fun y hy=>hg.block y (World.ownsRow.lt o1 y hy).2 (fun e=>h.ap y hy e.symm)),?_,?_,(gZ hz h.bel).grown hg (by simp;omega) (fun y hy=>(World.ownsRow.lt os1 y hy).1),h.lo⟩
 ·rw[List.length_append,show cZ .i64 (S++ [x])=cZ .i64 S++ [.int .i64 (x:Nat)] by simp[cZ]]
  exact hown
 ·intro y hy hh
  rcases hat with e|e
  ·exact h.ap y hy (by rw[<-e];exact hh)
  ·rw[e]at hh
   injection hh with hh
   have:=(World.ownsRow.lt h.oc y hy).2
   simp at hh
   omega
end
structure RbJ (w w3 wr:World) (gx:Nat) (C S:List Nat) (vc vs vf:Value) (fv:List Value) (F:List (List Nat)):Prop where
 bx:Blk wr gx 38 #[vc,vf, .slice none 0 0, .slice none 0 0, .slice none 0 0, .slice none 0 0]
 oc:wr.ownsRow w3.heap.size 3 1 vc C.length (cZ .i64 C)
 os:wr.ownsRow w3.heap.size 3 1 vs S.length (cZ .i64 S)
 ofr:wr.ownsRow w3.heap.size 22 1 vf F.length fv
 fin:∀ (i:Nat) v b,fv[i]? =some v->F[i]? =some b->mnZ w w.heap.size v b
 bel:Below w3.heap.size w3 wr
 lo:w3.heap.size<=gx
theorem RbJ.add{w w3 wr w5:World}{gx:Nat}{C S:List Nat}{vc vs vf v5 u:Value}{fv:List Value}{F:List (List Nat)}{b:List Nat}{o:Obj}(h:RbJ w w3 wr gx C S vc vs vf fv F)(hu:mnZ w w.heap.size u b)(hg:(wr.alloc o).grownBy w5 vf.ownBlock)(hown:w5.ownsRow w3.heap.size 22 1 v5 (F.length+1) (fv++ [u])):RbJ w w3 (w5.setCell ⟨gx,1,none⟩ v5) gx C S vc vs v5 (fv++ [u]) (F++ [b]):=by
 have hlo:=h.lo
 have hz:=h.bel.size
 have of1:=h.ofr.alloc o
 have b5:=(h.bx.alloc o).grown hg (Ne.symm (jZ h.ofr h.bx (by decide)))
 have oc5:=own_far (h.oc.alloc o) of1 (by decide) hg
 have os5:=own_far (h.os.alloc o) of1 (by decide) hg
 have hlen:fv.length=F.length:=by have:=h.ofr.1;omega
 refine⟨by simpa using b5.set 1 v5,vZ oc5 (jZ oc5 b5 (by decide)) _,vZ os5 (jZ os5 b5 (by decide)) _,?_,?_,fZ (by show _<=gx;omega) ((gZ hz h.bel).grown hg (by simp;omega) (fun y hy=>(World.ownsRow.lt of1 y hy).1)),h.lo⟩
 ·rw[List.length_append]
  exact vZ hown (jZ hown b5 (by decide)) _
 ·intro i v is hv hi
  by_cases hlt:i<F.length
  ·rw[List.getElem?_append_left (by omega)]at hv
   rw[List.getElem?_append_left hlt]at hi
   exact h.fin i v is hv hi
  ·rw[List.getElem?_append_right (by omega)]at hv
   rw[List.getElem?_append_right (by omega)]at hi
   have h0:i-F.length=0:=by
    have:=(List.getElem?_eq_some_iff.1 hi).1
    simp at this
    omega
   rw[hlen,h0]at hv
   rw[h0]at hi
   simp at hv hi
   subst hv hi
   exact hu
def RBodyAt2(w w3 w':World)(vc vf vt vl vT vL:Value)(C T L:List Nat)(X:List Str×List (List Nat))(F:List (List Nat)):Prop:=
 ∃vals fv,w'.ownsRow w3.heap.size 3 1 vc C.length (cZ .i64 C)/\w'.ownsRow w3.heap.size 22 1 vf F.length fv/\(∀ (i:Nat) u b,fv[i]? =some u->F[i]? =some b->mnZ w w.heap.size u b)/\
  w'.ownsRow w3.heap.size 57 1 vt T.length (cZ .u64 T)/\w'.ownsRow w3.heap.size 5 1 vl L.length (cZ .u8 L)/\IxAt w' w3.heap.size vT vL vals X.1 X.2
theorem RBodyAt2.shape{w w3 w':World}{vc vf vt vl vT vL:Value}{C T L:List Nat}{X:List Str×List (List Nat)}{F:List (List Nat)}(h:RBodyAt2 w w3 w' vc vf vt vl vT vL C T L X F):∃A n c,vc= .slice A n c:=by
 obtain⟨vals,fv,h1,_⟩:=h
 obtain⟨A,c,e⟩:=bZ h1
 exact⟨A,_,c,e⟩
def vzZ(w w':World)(v:Value)(C T L:List Nat)(X:List Str×List (List Nat))(F:List (List Nat)):Prop:=
 ∃vc vf vt vl vT vL vals fv,v= .agg #[vc,vf,vt,vl,vT,vL]/\w'.ownsRow w.heap.size 3 1 vc C.length (cZ .i64 C)/\w'.ownsRow w.heap.size 22 1 vf F.length fv/\(∀ (i:Nat) u b,fv[i]? =some u->F[i]? =some b->mnZ w w.heap.size u b)/\
  w'.ownsRow w.heap.size 57 1 vt T.length (cZ .u64 T)/\w'.ownsRow w.heap.size 5 1 vl L.length (cZ .u8 L)/\IxAt w' w.heap.size vT vL vals X.1 X.2
def crZ(o:Opt)(ls:List Nat)(w:World)(e:Ending)(w':World):Prop:=
 Below w.heap.size w w'/\∃v,e= .returned (.tuple #[v, .int .i64 (idZ o ls)])/\(idZ o ls≠0->v= .agg zero6.toArray)/\
  (idZ o ls=0->vzZ w w' v (kcZ (yZ ls)) (jbZ (oN ls) (xZ (bdZ ls))).1 (jbZ (oN ls) (xZ (bdZ ls))).2.1 (Idx.ixR o.bucket.toNat (oN ls) (xZ (yfZ ls))).1 (sbZ (qcZ (yZ ls)) (ls.take (pdZ ls))))
theorem RBodyAt2.done{w w3 w' w2:World}{r1:Nat}{vc vf vt vl vT vL:Value}{C T L:List Nat}{X:List Str×List (List Nat)}{F:List (List Nat)}(h:RBodyAt2 w w3 w' vc vf vt vl vT vL C T L X F)(hk:Kept (fun x=>x<w'.heap.size/\x≠r1) w' w2)(hr:r1<w3.heap.size)(hw:w.heap.size<=w3.heap.size):vzZ w w2 (.agg #[vc,vf,vt,vl,vT,vL]) C T L X F:=by
 obtain⟨vals,fv,h1,h2,h3,h4,h5,h6⟩:=h
 have far:∀ {n:Nat} {e:TypeId} {v:Value} {xs:List Value},w'.ownsRow w3.heap.size e 1 v n xs->w2.ownsRow w.heap.size e 1 v n xs:=fun ho=>lZ (eZ ho fun y hy=>hk.block y ⟨(World.ownsRow.lt ho y hy).2,by have:=(World.ownsRow.lt ho y hy).1;omega⟩) hw
 exact⟨vc,vf,vt,vl,vT,vL,vals,fv,rfl,far h1,far h2,h3,far h4,far h5,⟨far h6.t,far h6.l,fun i v ids hv hi=>far (h6.r i v ids hv hi)⟩⟩
theorem kdZ{o:Opt}{ls:List Nat}{w w':World}{er:Int}(hE:idZ o ls=er)(hne:er≠0)(hb:Below w.heap.size w w'):crZ o ls w (.returned (.tuple #[.agg #[.slice none 0 0, .slice none 0 0, .slice none 0 0, .slice none 0 0, .slice none 0 0, .slice none 0 0], .int .i64 er])) w':=by
 subst hE
 exact⟨hb,_,rfl,fun _=>rfl,fun h=>absurd h hne⟩
end Go.Proofs.YtbgoibedicbkjaaGreatDoor.Body
namespace Go.Proofs.YtbgoibedicbkjaaGreatDoor.Body
open Go.RowKit Mem Own Canon Nums Crc Recs
open Opts
open Go.Proofs.YtbgoibedicbkjaaGreatDoor.Idx (Str IxAt apZ)
theorem tbZb(w:World)(o:Opt)(A:Option Addr)(n c:Nat)(ls:List Nat)(hn:ls.length=n)(hle:n<=100000)(hc:n<=c)(h8:∀x∈ls,x<=255)(hnil:A=none->n=0/\c=0)(ha:Row w w.heap.size A n 1 (mZ .u8 ls)):
 Calls Tryz.prog 21 #[o.val, .slice A n c] w (crZ o ls w):=by
 have D0:=hid (fun wx=>pxZ wx o)
 have HN:=hid hn
 have H8:=hid h8
 have HN0:=hid hnil
 have HA:=hid ha
 have HBU:Hid (oeZ o=0->∃bu:Nat,o.bucket=(bu:Int)/\1<=bu/\bu<=64):=xoZ
 have HO9:Hid (oeZ o≠0->oeZ o=9):=laZb
 clear ha hnil h8 hn
 obtain⟨O,hO⟩:∃O,O=idZ o ls:=⟨_,rfl⟩
 have HO:=hid hO
 unfold idZ at hO
 generalize oeZ o=oe at *
 have HOE:=hid hO
 clear hO
 unfold Opt.val
 unfold Opt.val at D0
 generalize hb2:o.bucket=b2 at *
 have HBQ:=hid hb2
 clear hb2
 generalize o.block=b0 at *
 generalize o.plain=b1 at *
 generalize o.data=b3 at *
 generalize o.parity=b4 at *
 generalize o.chunk=b5 at *
 go_enter Tryz.func21,Tryz.ntmps21
 go_wp2_with fail
 have hob:Blk ((((w.alloc (.cells #[.int .i64 b0, .bool b1, .int .i64 b2, .int .i64 b3, .int .i64 b4, .int .i64 b5] 25)).alloc (.cells #[.slice none 0 0, .slice none 0 0, .slice none 0 0, .slice none 0 0, .slice none 0 0, .slice none 0 0] 38)).alloc (.cells #[.slice none 0 0, .slice none 0 0, .slice none 0 0, .slice none 0 0, .slice none 0 0, .slice none 0 0] 38))) w.heap.size 25 #[.int .i64 b0, .bool b1, .int .i64 b2, .int .i64 b3, .int .i64 b4, .int .i64 b5]:=((Blk.made _ _ _).alloc _).alloc _
 have hz1:Blk ((((w.alloc (.cells #[.int .i64 b0, .bool b1, .int .i64 b2, .int .i64 b3, .int .i64 b4, .int .i64 b5] 25)).alloc (.cells #[.slice none 0 0, .slice none 0 0, .slice none 0 0, .slice none 0 0, .slice none 0 0, .slice none 0 0] 38)).alloc (.cells #[.slice none 0 0, .slice none 0 0, .slice none 0 0, .slice none 0 0, .slice none 0 0, .slice none 0 0] 38))) (w.heap.size+1) 38 #[.slice none 0 0, .slice none 0 0, .slice none 0 0, .slice none 0 0, .slice none 0 0, .slice none 0 0]:=(Blk.made_at _ _ _ (by simp)).alloc _
 have hz2:Blk ((((w.alloc (.cells #[.int .i64 b0, .bool b1, .int .i64 b2, .int .i64 b3, .int .i64 b4, .int .i64 b5] 25)).alloc (.cells #[.slice none 0 0, .slice none 0 0, .slice none 0 0, .slice none 0 0, .slice none 0 0, .slice none 0 0] 38)).alloc (.cells #[.slice none 0 0, .slice none 0 0, .slice none 0 0, .slice none 0 0, .slice none 0 0, .slice none 0 0] 38))) (w.heap.size+1+1) 38 #[.slice none 0 0, .slice none 0 0, .slice none 0 0, .slice none 0 0, .slice none 0 0, .slice none 0 0]:=Blk.made_at _ _ _ (by simp)
 have hb1:Below w.heap.size w ((((w.alloc (.cells #[.int .i64 b0, .bool b1, .int .i64 b2, .int .i64 b3, .int .i64 b4, .int .i64 b5] 25)).alloc (.cells #[.slice none 0 0, .slice none 0 0, .slice none 0 0, .slice none 0 0, .slice none 0 0, .slice none 0 0] 38)).alloc (.cells #[.slice none 0 0, .slice none 0 0, .slice none 0 0, .slice none 0 0, .slice none 0 0, .slice none 0 0] 38))):=by(repeat(first|(with_reducible first|exact Below.refl _ _|assumption|refine Below.drew ?_|refine below_drewN ?_ _|refine aZ ?_|refine dZ (by assumption) ?_)|((with_reducible first|refine fZ ?_ ?_|refine gZ ?_ ?_|refine iZ (by assumption) ?_ ?_);(focus(first|(simp;done)|(simp;omega)|omega|(simp at *;omega))))))
 have hzz:w.heap.size+3<=((((w.alloc (.cells #[.int .i64 b0, .bool b1, .int .i64 b2, .int .i64 b3, .int .i64 b4, .int .i64 b5] 25)).alloc (.cells #[.slice none 0 0, .slice none 0 0, .slice none 0 0, .slice none 0 0, .slice none 0 0, .slice none 0 0] 38)).alloc (.cells #[.slice none 0 0, .slice none 0 0, .slice none 0 0, .slice none 0 0, .slice none 0 0, .slice none 0 0] 38))).heap.size:=by simp
 generalize (((w.alloc (.cells #[.int .i64 b0, .bool b1, .int .i64 b2, .int .i64 b3, .int .i64 b4, .int .i64 b5] 25)).alloc (.cells #[.slice none 0 0, .slice none 0 0, .slice none 0 0, .slice none 0 0, .slice none 0 0, .slice none 0 0] 38)).alloc (.cells #[.slice none 0 0, .slice none 0 0, .slice none 0 0, .slice none 0 0, .slice none 0 0, .slice none 0 0] 38))=w3 at *
 generalize hr1e:w.heap.size+1=r1 at *
 generalize hr2e:r1+1=r2 at *
 have hwr1:w.heap.size<=r1:=by omega
 have hr1:r1<w3.heap.size:=by omega
 have hr2:r2<w3.heap.size:=by omega
 have hr12:r1<r2:=by omega
 have hzw3:w.heap.size<=w3.heap.size:=by omega
 have HOB:=hid hob
 have HZ1:=hid hz1
 have HZ2:=hid hz2
 have HW3:=hid hb1
 clear hob hz1 hz2 hb1 hr1e hr2e hzz
 refine(D0.out _).mono ?_
 rintro e w4 ⟨rfl,hb4⟩
 have HB4:=hid hb4
 have z4:=hb4.size
 clear hb4 D0
 by_cases hoe:oe=0
 ·subst hoe
  obtain⟨bu,rfl,hbu1,hbu2⟩:=HBU.out rfl
  have hO:=HOE.out
  rw[if_neg (show ¬((0:Int)≠0) from fun h=>h rfl)]at hO
  unfold bsZ at hO
  have HBT:Hid (o.bucket.toNat=bu):=by show _=_;rw[HBQ.out];exact Int.toNat_natCast _
  clear HBU HBQ HOE HO9
  by_cases h4:n<4
  ·have g4:decide ((n:Int)<4)=true:=by simp;omega
   have g4':decide (n<4)=true:=by simp;omega
   have HF:Hid (O=1):=by rw[if_pos (.inl (by rw[HN.out];exact h4))]at hO;exact hO
   have HNE:Hid ((1:Int)≠0):=show(1:Int)≠0 by decide
   have HBW:=HB4
   clear h4 hO
   have hn2:=HZ2.out.below HBW.out hr2
   have hn1:=HZ1.out.below HBW.out hr1
   have hw0:=HW3.out.trans (HBW.out.mono hzw3)
   have HBF:=hid hw0
   have HN1:=hid hn1
   have u0:=hn2.cell 0;have u1:=hn2.cell 1;have u2:=hn2.cell 2;have u3:=hn2.cell 3;have u4:=hn2.cell 4;have u5:=hn2.cell 5;simp only[List.getElem?_toArray,List.getElem?_cons_zero,List.getElem?_cons_succ]at u0 u1 u2 u3 u4 u5
   have v0:=hn1.cell 0;have v1:=hn1.cell 1;have v2:=hn1.cell 2;have v3:=hn1.cell 3;have v4:=hn1.cell 4;have v5:=hn1.cell 5;simp only[List.getElem?_toArray,List.getElem?_cons_zero,List.getElem?_cons_succ]at v0 v1 v2 v3 v4 v5
   have vf0:=hn1.frozen 0;have vf1:=hn1.frozen 1;have vf2:=hn1.frozen 2;have vf3:=hn1.frozen 3;have vf4:=hn1.frozen 4;have vf5:=hn1.frozen 5
   clear hn1 hn2 hw0
   go_wp2_with fail
   refine bodyPost_ret (v:= .tuple #[.agg #[.slice none 0 0, .slice none 0 0, .slice none 0 0, .slice none 0 0, .slice none 0 0, .slice none 0 0], .int .i64 1]) ?_ rfl ?_
   ·have hx3:=(((((HN1.out.set 0 (.slice none 0 0)).set 1 (.slice none 0 0)).set 2 (.slice none 0 0)).set 3 (.slice none 0 0)).set 4 (.slice none 0 0)).set 5 (.slice none 0 0)
    have e0:=hx3.cell 0
    have e1:=hx3.cell 1
    have e2:=hx3.cell 2
    have e3:=hx3.cell 3
    have e4:=hx3.cell 4
    have e5:=hx3.cell 5
    simp at e0 e1 e2 e3 e4 e5
    simp[results,Tryz.results21,go_sem,e0,e1,e2,e3,e4,e5]
   ·refine kdZ (HO.out.symm.trans HF.out) HNE.out ?_
    repeat (first|((with_reducible refine fZ ?_ ?_);(focus (exact hwr1)))|(with_reducible refine Below.drew ?_))
    first|(with_reducible exact HBF.out)|(with_reducible exact Below.drew HBF.out)|(with_reducible exact below_drewN HBF.out _)
  ·have g4:decide ((n:Int)<4)=false:=by simp;omega
   have g4':decide (n<4)=false:=by simp;omega
   obtain⟨m,rfl⟩:∃m,n=m+4:=⟨n-4,by omega⟩
   have hm4:ls.length-4=m:=by rw[HN.out];omega
   have hdl:(ls.drop m).length=4:=by rw[List.length_drop,HN.out];omega
   have h8d:∀x∈ls.drop m,x<=255:=fun x hx=>H8.out x (List.mem_of_mem_drop hx)
   have hkl:=bzZ h8d hdl
   have hd:=uZ HA.out (show m<=m+4 by omega) hc
   rw[show m+4-m=4 by omega]at hd
   have hnl:sZ A m c 1=none->4=0/\c-m=0:=fun h=>by
    obtain⟨b,off,e2,_⟩:=hd (by omega)
    rw[h]at e2;cases e2
   have D1:=hid (rnew_any w4 (sZ A m c 1) 4 (c-m) (ls.drop m) hdl (by omega) hnl ((hd.below (HW3.out.trans (HB4.out.mono hzw3))).mono (by omega)))
   have ks1:=fun wx=>vcZ (P:=Tryz.prog) (t:=22) (s:=1) Tryz.underlying22 (fun _=>by kernel_rfl) A (m+4) c .i64 (m:Int) m rfl (by omega) wx
   rw[show m+4-m=4 by omega]at ks1
   have D2:=hid (fun wx g B d h=>sxZ wx g w4.heap.size (ls.drop m) B d hdl h8d h)
   have s1:IntKind.i64.wrap (((m+4:Nat):Int)-4)=(m:Int):=by rw[IntWalk.i64_in _ (by omega)];omega
   have s1':IntKind.i64.wrap ((m:Int)+4-4)=(m:Int):=by rw[IntWalk.i64_in _ (by omega)];omega
   obtain⟨k,hk⟩:∃k,k=wgZ (ls.drop m):=⟨_,rfl⟩
   rw[<-hk]at D2 hkl
   have wk:IntKind.i64.wrap (k:Int)=(k:Int):=IntWalk.i64_in _ (by omega)
   have HKK:=hid hk
   have HM4:=hid hm4
   have HD4:=hid hd
   have HOF:=hid hO
   generalize sZ A m c 1=A1 at *
   generalize c-m=c1 at *
   clear hd h8d hdl hnl hk hm4 h4 hO
   go_wp2_with fail
   refine D1.out.mono ?_
   rintro e w5 ⟨g,B,d,rfl,hc5,hb5⟩
   have HB5:Hid (Below w3.heap.size w3 w5):=HB4.out.trans (hb5.mono z4)
   have D3:=hid (D2.out w5 g B d hc5)
   have hglo:=hc5.lo
   have z5:=HB5.out.size
   clear hc5 hb5 D1 D2 HB4
   go_wp2_with fail
   refine D3.out.mono ?_
   rintro e w6 ⟨rfl,hc6,hk6⟩
   have HB6:Hid (Below w3.heap.size w3 w6):=HB5.out.trans (hk6.below fun b h=>⟨by omega,by omega⟩)
   have z6:=HB6.out.size
   clear hc6 hk6 D3 HB5
   by_cases hkm:m<k
   ·have g2:decide ((m:Int)<(k:Int))=true:=by simp;omega
    have g2':decide (m<k)=true:=by simp;omega
    have HF:Hid (O=1):=by have h:=HOF.out;rw[if_pos (.inr (by rw[HM4.out,<-HKK.out];exact hkm))]at h;exact h
    have HNE:Hid ((1:Int)≠0):=show(1:Int)≠0 by decide
    have HBW:=HB6
    clear hkm HOF
    have hn2:=HZ2.out.below HBW.out hr2
    have hn1:=HZ1.out.below HBW.out hr1
    have hw0:=HW3.out.trans (HBW.out.mono hzw3)
    have HBF:=hid hw0
    have HN1:=hid hn1
    have u0:=hn2.cell 0;have u1:=hn2.cell 1;have u2:=hn2.cell 2;have u3:=hn2.cell 3;have u4:=hn2.cell 4;have u5:=hn2.cell 5;simp only[List.getElem?_toArray,List.getElem?_cons_zero,List.getElem?_cons_succ]at u0 u1 u2 u3 u4 u5
    have v0:=hn1.cell 0;have v1:=hn1.cell 1;have v2:=hn1.cell 2;have v3:=hn1.cell 3;have v4:=hn1.cell 4;have v5:=hn1.cell 5;simp only[List.getElem?_toArray,List.getElem?_cons_zero,List.getElem?_cons_succ]at v0 v1 v2 v3 v4 v5
    have vf0:=hn1.frozen 0;have vf1:=hn1.frozen 1;have vf2:=hn1.frozen 2;have vf3:=hn1.frozen 3;have vf4:=hn1.frozen 4;have vf5:=hn1.frozen 5
    clear hn1 hn2 hw0
    go_wp2_with fail
    refine bodyPost_ret (v:= .tuple #[.agg #[.slice none 0 0, .slice none 0 0, .slice none 0 0, .slice none 0 0, .slice none 0 0, .slice none 0 0], .int .i64 1]) ?_ rfl ?_
    ·have hx3:=(((((HN1.out.set 0 (.slice none 0 0)).set 1 (.slice none 0 0)).set 2 (.slice none 0 0)).set 3 (.slice none 0 0)).set 4 (.slice none 0 0)).set 5 (.slice none 0 0)
     have e0:=hx3.cell 0
     have e1:=hx3.cell 1
     have e2:=hx3.cell 2
     have e3:=hx3.cell 3
     have e4:=hx3.cell 4
     have e5:=hx3.cell 5
     simp at e0 e1 e2 e3 e4 e5
     simp[results,Tryz.results21,go_sem,e0,e1,e2,e3,e4,e5]
    ·refine kdZ (HO.out.symm.trans HF.out) HNE.out ?_
     repeat (first|((with_reducible refine fZ ?_ ?_);(focus (exact hwr1)))|(with_reducible refine Below.drew ?_))
     first|(with_reducible exact HBF.out)|(with_reducible exact Below.drew HBF.out)|(with_reducible exact below_drewN HBF.out _)
   ·have g2:decide ((m:Int)<(k:Int))=false:=by simp;omega
    have g2':decide (m<k)=false:=by simp;omega
    obtain⟨r,hr⟩:∃r,r=m-k:=⟨_,rfl⟩
    have s2:IntKind.i64.wrap ((m:Int)-(k:Int))=(r:Int):=by rw[IntWalk.i64_in _ (by omega)];omega
    have hrm:pdZ ls=r:=by unfold pdZ;rw[HM4.out,<-HKK.out,hr]
    have hch:fdZ ls=(ls.drop r).take k:=by unfold fdZ;rw[HM4.out,<-HKK.out,<-hr]
    have hO:=HOF.out
    rw[if_neg (fun h=>h.elim (fun h=>by rw[HN.out]at h;omega) (fun h=>by rw[HM4.out,<-HKK.out]at h;omega))]at hO
    have hchl:((ls.drop r).take k).length=k:=by rw[List.length_take,List.length_drop,HN.out];omega
    have hch8:∀x∈(ls.drop r).take k,x<=255:=fun x hx=>H8.out x (List.mem_of_mem_drop (List.mem_of_mem_take hx))
    have hrr:=hbZ (uZ HA.out (show r<=m+4 by omega) hc) (show k<=m+4-r by omega)
    have D4:=Block.amZ w6 (sZ A r c 1) k (c-r) ((ls.drop r).take k) hchl (by omega) (by omega) hch8 ((hrr.below (HW3.out.trans (HB6.out.mono hzw3))).mono (by omega))
    rw[<-hch]at D4 hchl hch8
    unfold deZ at D4
    have ks2:=fun wx=>ihZ (P:=Tryz.prog) (t:=22) (s:=1) Tryz.underlying22 (fun _=>by kernel_rfl) A (m+4) c .i64 .i64 (r:Int) (m:Int) r m rfl rfl (by omega) (by omega) wx
    rw[show m-r=k by omega]at ks2
    have hD8:∀x∈yZ ls,x<=255:=tgZ hch8
    have hDl:(yZ ls).length<=100000:=by unfold yZ;have:=qjZ (fdZ ls);omega
    have hD4:xZ (fdZ ls)=yZ ls:=rfl
    rw[hD4]at D4
    generalize icZ (fdZ ls)=ce at *
    obtain⟨D,hD⟩:∃D,D=yZ ls:=⟨_,rfl⟩
    rw[<-hD]at D4 hD8 hDl
    have HDD:=hid hD
    have HRM:=hid hrm
    have HOG:=hid hO
    have D4:=hid D4
    have HD8:=hid hD8
    have hrk:r+k<=m:=by omega
    have hrk2:m<=r+k:=by omega
    generalize sZ A r c 1=A2 at *
    generalize c-r=c2 at *
    obtain⟨dl,hdl⟩:∃dl,dl=D.length:=⟨_,rfl⟩
    rw[<-hdl]at D4 hDl
    have HDL:=hid hdl
    clear hO hrm hch hchl hch8 hrr hD4 hD hD8 hr hdl HOF
    go_wp2_with fail
    refine D4.out.mono ?_
    rintro e w7 ⟨v7,rfl,ho7,hb7⟩
    obtain⟨Ad,cd,rfl⟩:=bZ ho7
    have HB7:Hid (Below w3.heap.size w3 w7):=HB6.out.trans (hb7.mono z6)
    have z7:=HB7.out.size
    have HO7:=hid ho7
    clear ho7 hb7 D4 HB6
    by_cases hce:ce=0
    ·subst hce
     have hO:=HOG.out
     rw[if_neg (show ¬((0:Int)≠0) from fun h=>h rfl)]at hO
     have HOD:=hid hO
     clear hO HOG
     have hrow7:Row w7 w7.heap.size Ad dl 1 (mZ .u8 D):=by have h:=HO7.out;rw[HDL.out]at h;have h2:=own_row h;rw[<-HDL.out]at h2;exact h2
     have D5:=hid (rnew_any w7 Ad dl cd D HDL.out.symm hDl (fhZ HO7.out) hrow7)
     have hDl2:D.length<=100000:=by rw[<-HDL.out];exact hDl
     clear hrow7
     go_wp2_with fail
     refine D5.out.mono ?_
     rintro e w8 ⟨g8,B8,d8,rfl,hc8,hb8⟩
     have HB8:Hid (Below w3.heap.size w3 w8):=HB7.out.trans (hb8.mono z7)
     have z8:=HB8.out.size
     have HC8:Hid (RCur w8 g8 w3.heap.size D B8 d8 0 0):=mfZb hc8 z7
     have hg8r:r1<g8:=by have:=HC8.out.lo;omega
     have hne1:¬g8=r1:=by omega
     have hne2:¬r1=g8:=by omega
     clear hc8 hb8 D5 HB7 HO7
     go_wp2_with fail
     have hx9:Blk (w8.alloc (.cells #[.slice none 0 0, .slice none 0 0, .slice none 0 0, .slice none 0 0, .slice none 0 0, .slice none 0 0] 38)) w8.heap.size 38 #[.slice none 0 0, .slice none 0 0, .slice none 0 0, .slice none 0 0, .slice none 0 0, .slice none 0 0]:=Blk.made _ _ _
     have hb9:Below w8.heap.size w8 (w8.alloc (.cells #[.slice none 0 0, .slice none 0 0, .slice none 0 0, .slice none 0 0, .slice none 0 0, .slice none 0 0] 38)):=aZ (Below.refl _ _)
     have HC9:=hid (HC8.out.step hb9)
     generalize w8.alloc (.cells #[.slice none 0 0, .slice none 0 0, .slice none 0 0, .slice none 0 0, .slice none 0 0, .slice none 0 0] 38)=w9 at *
     generalize hgx:w8.heap.size=gx at *
     have hgx3:w3.heap.size<=gx:=by omega
     have HI9:Hid (RbI w3 w9 gx g8 D B8 d8 0 0 [] [] (.slice none 0 0) (.slice none 0 0)):=⟨HC9.out,hx9,World.ownsRow_nil _ _ _ _,World.ownsRow_nil _ _ _ _,(fun y h=>by cases h),HB8.out.trans (hb9.mono hgx3),hgx3⟩
     clear hx9 hb9 hgx HC8 HC9 HB8
     have DI:=hid (fun wx at_ er most (hm:most<=1000000000) h=>qfZ wx g8 w3.heap.size D B8 d8 at_ er most hDl2 HD8.out hm h)
     have HV0:Hid (∀most a:Nat,qZ most D a 0≠0->tZ most D a 0=0):=fun most a h=>by
      unfold qZ at h
      rw[if_neg (by simp)]at h
      unfold tZ
      rw[if_neg (by simp)]
      exact((tdZ most (D.drop a) fun x hx=>HD8.out x (List.mem_of_mem_drop hx)).2.2.2.1 h).1
     have HV8:Hid (∀ (most a:Nat) (er:Int),tZ most D a er<=most):=fun most a er=>qbZ HD8.out a er
     have hrec0:gdZ D<=20000:=HV8.out _ _ _
     have hblk0:xgZ D<=20000:=Nat.le_trans (HV8.out _ _ _) hrec0
     have hnz:qZ (gdZ D) D (pZ 20000 D 0 0) (qZ 20000 D 0 0)≠0->xgZ D=0:=fun h=>by
      unfold xgZ
      by_cases he:qZ 20000 D 0 0=0
      ·rw[he]at h ⊢
       exact HV0.out _ _ h
      ·unfold tZ
       rw[if_pos he]
     refine(DI.out _ 0 0 20000 (by omega) HI9.out.cur).mono ?_
     rintro e w10 ⟨rfl,hc10,hk10⟩
     have HI10:=hid (HI9.out.call hc10 hk10)
     obtain⟨rec,hrec⟩:∃rec,rec=gdZ D:=⟨_,rfl⟩
     have HREC:=hid hrec
     rw[<-hrec]at hrec0 hnz
     rw[show tZ 20000 D 0 0=rec from hrec.symm]
     clear hc10 hk10 HI9 hrec
     go_wp2_with fail
     refine(DI.out _ _ _ rec (by omega) HI10.out.cur).mono ?_
     rintro e w11 ⟨rfl,hc11,hk11⟩
     have hi11:=HI10.out.call hc11 hk11
     obtain⟨nb,hnb⟩:∃nb,nb=xgZ D:=⟨_,rfl⟩
     have HNB:=hid hnb
     rw[<-hnb]at hblk0 hnz
     rw[show tZ rec D (pZ 20000 D 0 0) (qZ 20000 D 0 0)=nb by rw[hnb,HREC.out];rfl]
     have HG0:Hid (mfZ rec D (nb-0) (pZ rec D (pZ 20000 D 0 0) (qZ 20000 D 0 0)) (qZ rec D (pZ 20000 D 0 0) (qZ 20000 D 0 0)) [] []=yhZ D):=by
      show _=_
      rw[HREC.out,HNB.out];rfl
     generalize pZ rec D (pZ 20000 D 0 0) (qZ 20000 D 0 0)=a0 at *
     generalize qZ rec D (pZ 20000 D 0 0) (qZ 20000 D 0 0)=e0 at *
     have HI11:=hid hi11
     have HNZ:=hid hnz
     clear hc11 hk11 hi11 HI10 hnb hnz
     obtain⟨j0,hj0,hy0,hy1,hy2⟩:=info_parts iwZ
     go_wp2_with fail
     go_loopw [15,16,17,18,19] (fun sv tv hv zv iv wr=>∃ (k at_ tt hh:Nat) (er:Int) (C S:List Nat) (vc vs:Value) (zb:Bool),k<=nb/\tt<=k*8388608/\hh<=k*20000/\vs=sv/\tv= .int .i64 tt/\hv= .int .i64 hh/\zv= .bool zb/\iv= .int .i64 k/\Hid (zb=decide (0∈C))/\Hid (C.length=k)/\Hid (S.length=k)/\Hid (tt=S.sum)/\Hid (hh=C.sum)/\Hid (er≠0->nb=0)/\Hid (RbI w3 wr gx g8 D B8 d8 at_ er C S vc vs)/\Hid (mfZ rec D (nb-k) at_ er C S=yhZ D)) (fun _ _ _ _ iv _=>nb-(intOf iv).toNat)
     case atStart=>exact⟨0,a0,0,0,e0,[],[],_,_,false,by omega,by omega,by omega,rfl,rfl,rfl,rfl,rfl,by simp[Hid],rfl,rfl,rfl,rfl,HNZ.out,HI11.out,HG0.out⟩
     case round=>
      obtain⟨k0,at_,tt,hh,er0,C,S,vc,vs,zb,hk0,htt,hhh,rfl,rfl,rfl,rfl,rfl,HZB,HCL,HSL,HTS,HHC,HEZ,HI,HG⟩:=hrel
      clear HI11 HG0 HNZ
      have zr:=HI.out.bel.size
      by_cases hkn:k0<nb
      ·have gk:decide ((k0:Int)<(nb:Int))=true:=by simp;omega
       have gk':decide (k0<nb)=true:=by simp;omega
       obtain rfl:er0=0:=Classical.byContradiction fun h=>by have:=HEZ.out h;omega
       have hG:=HG.out
       rw[show nb-k0=(nb-(k0+1))+1 by omega,mfZ,if_neg (show ¬((0:Int)≠0) from fun h=>h rfl)]at hG
       have hv1:=HV8.out rec at_ 0
       have hv2:=HV8.out 8388608 (pZ rec D at_ 0) (qZ rec D at_ 0)
       have D1:=hid (fun wx hx=>DI.out wx at_ 0 rec (by omega) hx)
       have D2:=hid (fun wx hx=>DI.out wx (pZ rec D at_ 0) (qZ rec D at_ 0) 8388608 (by omega) hx)
       generalize tZ 8388608 D (pZ rec D at_ 0) (qZ rec D at_ 0)=s at *
       generalize pZ 8388608 D (pZ rec D at_ 0) (qZ rec D at_ 0)=a2 at *
       generalize qZ 8388608 D (pZ rec D at_ 0) (qZ rec D at_ 0)=e2 at *
       generalize tZ rec D at_ 0=rr at *
       generalize pZ rec D at_ 0=a1 at *
       generalize qZ rec D at_ 0=e1 at *
       have HGG:=hid hG
       clear hG HG HEZ
       go_wp2_with fail
       refine(D1.out _ HI.out.cur).mono ?_
       rintro e w12 ⟨rfl,hc12,hk12⟩
       have HI12:=hid (HI.out.call hc12 hk12)
       clear hc12 hk12 HI D1
       go_wp2_with fail
       refine(D2.out _ HI12.out.cur).mono ?_
       rintro e w13 ⟨rfl,hc13,hk13⟩
       have hi13:=HI12.out.call hc13 hk13
       have HI13:=hid hi13
       have px:=hc13.cells.2.2
       have zi13:=hi13.bel.size
       clear hc13 hk13 hi13 HI12 D2
       by_cases he2:e2=0
       ·subst he2
        have st:IntKind.i64.wrap ((tt:Int)+(s:Int))=((tt+s:Nat):Int):=by rw[IntWalk.i64_in _ (by omega)];omega
        have sh:IntKind.i64.wrap ((hh:Int)+(rr:Int))=((hh+rr:Nat):Int):=by rw[IntWalk.i64_in _ (by omega)];omega
        obtain⟨rb,hrb⟩:∃rb,rb=decide (rr=0):=⟨_,rfl⟩
        have gr:((rr:Int)==0)=rb:=by
         rw[hrb]
         by_cases h:rr=0
         ·subst h;rfl
         ·rw[decide_eq_false h,beq_eq_false_iff_ne];omega
        have HRB:=hid hrb
        obtain⟨pc,hpc⟩:∃p,p=C.length:=⟨_,rfl⟩
        obtain⟨ps,hps⟩:∃p,p=S.length:=⟨_,rfl⟩
        have hpk:pc<=nb:=by rw[hpc,HCL.out];exact hk0
        have hpk2:ps<=nb:=by rw[hps,HSL.out];exact hk0
        have hoc:=HI13.out.oc
        have hos:=HI13.out.os
        rw[<-hpc]at hoc
        rw[<-hps]at hos
        obtain⟨Ac,cc,rfl⟩:=bZ hoc
        obtain⟨As,cs,rfl⟩:=bZ hos
        have q0:=HI13.out.bx.cell 0
        simp only[List.getElem?_toArray,List.getElem?_cons_zero]at q0
        have HPC:=hid hpc
        have HPS:=hid hps
        have HOC:=hid hoc
        have HOS:=hid hos
        clear hrb hpc hps hoc hos
        cases zb with
        |true=>
         go_wp2_with(first|(at_builtin;refine kZ rfl (.tmp 94) (.tmp 96) 30 rfl w3.heap.size 3 j0 _ 1 8 Tryz.underlying30 hj0 hy0 hy1 hy2 rfl (by decide) _ _ _ (by rfl) (HOC.out.alloc _) _ 1 1 [.int .i64 (rr:Nat)] (by rfl) (Src.of_blk (Blk.made_at _ _ _ (by simp)) 1 1 1 rfl) (by intro u hu;simp at hu;rcases hu with rfl;rfl) (by unfold maxLen;omega) (by omega) (by simp;omega) ?_;intro v14 w14 hown14 hg14 hat14;obtain⟨A14,c14,rfl⟩:=bZ hown14;have b14:=(HI13.out.bx.alloc (.cells #[.int .i64 (rr:Nat)] 3)).grown hg14 (Ne.symm (jZ HI13.out.oc HI13.out.bx (by decide)));have u0:=b14.cell 0;have u1:=b14.frozen 0;have HI14:=hid (HI13.out.count (x:=rr) hg14 (by rw[<-HPC.out];exact hown14) hat14);have hos14:=HI14.out.os;rw[<-HPS.out]at hos14;have HOS14:=hid hos14;have zi14:w3.heap.size<=w14.heap.size:=(by have h:=HI14.out.bel.size;simpa using h);clear hos14 hown14 hg14 hat14;simp only[List.getElem?_toArray,List.getElem?_cons_zero]at u0)|(at_builtin;refine kZ rfl (.tmp 99) (.tmp 101) 30 rfl w3.heap.size 3 j0 _ 1 8 Tryz.underlying30 hj0 hy0 hy1 hy2 rfl (by decide) _ _ _ (by rfl) (HOS14.out.alloc _) _ 1 1 [.int .i64 (s:Nat)] (by rfl) (Src.of_blk (Blk.made_at _ _ _ (by simp)) 1 1 1 rfl) (by intro u hu;simp at hu;rcases hu with rfl;rfl) (by unfold maxLen;omega) (by omega) (by simp;omega) ?_;intro v15 w15 hown15 hg15 hat15;obtain⟨A15,c15,rfl⟩:=bZ hown15;have HI15:=hid (HI14.out.size (x:=s) hg15 (by rw[<-HPS.out];exact hown15) hat15);clear hown15 hg15 hat15))
         have HCL2:Hid ((C++ [rr]).length=k0+1):=by show _=_;rw[List.length_append,HCL.out];rfl
         have HSL2:Hid ((S++ [s]).length=k0+1):=by show _=_;rw[List.length_append,HSL.out];rfl
         have HTS2:Hid (tt+s=(S++ [s]).sum):=by show _=_;rw[List.sum_append,HTS.out];simp
         have HHC2:Hid (hh+rr=(C++ [rr]).sum):=by show _=_;rw[List.sum_append,HHC.out];simp
         have HZN:=hid (xwZ HZB.out HRB.out)
         go_roundw
         case measure=>go_light;simp[intOf];omega
         case rel=>go_light;exact⟨k0+1,a2,tt+s,hh+rr,0,C++ [rr],S++ [s], .slice A14 (pc+1) c14, .slice A15 (ps+1) c15,true,by omega,by omega,by omega,rfl,by first|rfl|go_num,by first|rfl|go_num,rfl,by first|rfl|go_num,HZN.out,HCL2.out,HSL2.out,HTS2.out,HHC2.out,(fun h=>absurd rfl h),HI15.out,HGG.out⟩
        |false=>
         go_wp2_with(first|(at_builtin;refine kZ rfl (.tmp 94) (.tmp 96) 30 rfl w3.heap.size 3 j0 _ 1 8 Tryz.underlying30 hj0 hy0 hy1 hy2 rfl (by decide) _ _ _ (by rfl) (HOC.out.alloc _) _ 1 1 [.int .i64 (rr:Nat)] (by rfl) (Src.of_blk (Blk.made_at _ _ _ (by simp)) 1 1 1 rfl) (by intro u hu;simp at hu;rcases hu with rfl;rfl) (by unfold maxLen;omega) (by omega) (by simp;omega) ?_;intro v14 w14 hown14 hg14 hat14;obtain⟨A14,c14,rfl⟩:=bZ hown14;have b14:=(HI13.out.bx.alloc (.cells #[.int .i64 (rr:Nat)] 3)).grown hg14 (Ne.symm (jZ HI13.out.oc HI13.out.bx (by decide)));have u0:=b14.cell 0;have u1:=b14.frozen 0;have HI14:=hid (HI13.out.count (x:=rr) hg14 (by rw[<-HPC.out];exact hown14) hat14);have hos14:=HI14.out.os;rw[<-HPS.out]at hos14;have HOS14:=hid hos14;have zi14:w3.heap.size<=w14.heap.size:=(by have h:=HI14.out.bel.size;simpa using h);clear hos14 hown14 hg14 hat14;simp only[List.getElem?_toArray,List.getElem?_cons_zero]at u0)|(at_builtin;refine kZ rfl (.tmp 99) (.tmp 101) 30 rfl w3.heap.size 3 j0 _ 1 8 Tryz.underlying30 hj0 hy0 hy1 hy2 rfl (by decide) _ _ _ (by rfl) (HOS14.out.alloc _) _ 1 1 [.int .i64 (s:Nat)] (by rfl) (Src.of_blk (Blk.made_at _ _ _ (by simp)) 1 1 1 rfl) (by intro u hu;simp at hu;rcases hu with rfl;rfl) (by unfold maxLen;omega) (by omega) (by simp;omega) ?_;intro v15 w15 hown15 hg15 hat15;obtain⟨A15,c15,rfl⟩:=bZ hown15;have HI15:=hid (HI14.out.size (x:=s) hg15 (by rw[<-HPS.out];exact hown15) hat15);clear hown15 hg15 hat15))
         have HCL2:Hid ((C++ [rr]).length=k0+1):=by show _=_;rw[List.length_append,HCL.out];rfl
         have HSL2:Hid ((S++ [s]).length=k0+1):=by show _=_;rw[List.length_append,HSL.out];rfl
         have HTS2:Hid (tt+s=(S++ [s]).sum):=by show _=_;rw[List.sum_append,HTS.out];simp
         have HHC2:Hid (hh+rr=(C++ [rr]).sum):=by show _=_;rw[List.sum_append,HHC.out];simp
         have HZN:=hid (xwZ HZB.out HRB.out)
         go_roundw
         case measure=>go_light;simp[intOf];omega
         case rel=>go_light;exact⟨k0+1,a2,tt+s,hh+rr,0,C++ [rr],S++ [s], .slice A14 (pc+1) c14, .slice A15 (ps+1) c15,rb,by omega,by omega,by omega,rfl,by first|rfl|go_num,by first|rfl|go_num,rfl,by first|rfl|go_num,HZN.out,HCL2.out,HSL2.out,HTS2.out,HHC2.out,(fun h=>absurd rfl h),HI15.out,HGG.out⟩
       ·have gE:(e2 != 0)=true:=by simpa using he2
        have HF:Hid (O=e2):=by
         have hg:=HGG.out
         rw[svZ he2]at hg
         have hde:dE D=e2:=by
          unfold dE dPE dPA
          rw[<-hg]
          simp only
          have h1:∀ (mm a:Nat),qZ mm D a e2=e2:=fun mm a=>if_pos he2
          rw[h1,h1]
          unfold vgZ
          split
          ·exact if_neg he2
          ·rfl
         have h:=HOD.out
         unfold asZ at h
         rw[<-HDD.out]at h
         have hdi:jhZ (pdZ ls) D=e2:=by unfold jhZ;rw[hde,if_pos he2]
         rw[hdi,if_pos he2]at h
         exact h
        have HNE:=hid he2
        have HBW:=hid HI13.out.bel
        obtain⟨er,her⟩:∃er:Int,er=e2:=⟨_,rfl⟩
        subst her
        clear he2 HGG HI13
        have hn2:=HZ2.out.below HBW.out hr2
        have hn1:=HZ1.out.below HBW.out hr1
        have hw0:=HW3.out.trans (HBW.out.mono hzw3)
        have HBF:=hid hw0
        have HN1:=hid hn1
        have u0:=hn2.cell 0;have u1:=hn2.cell 1;have u2:=hn2.cell 2;have u3:=hn2.cell 3;have u4:=hn2.cell 4;have u5:=hn2.cell 5;simp only[List.getElem?_toArray,List.getElem?_cons_zero,List.getElem?_cons_succ]at u0 u1 u2 u3 u4 u5
        have v0:=hn1.cell 0;have v1:=hn1.cell 1;have v2:=hn1.cell 2;have v3:=hn1.cell 3;have v4:=hn1.cell 4;have v5:=hn1.cell 5;simp only[List.getElem?_toArray,List.getElem?_cons_zero,List.getElem?_cons_succ]at v0 v1 v2 v3 v4 v5
        have vf0:=hn1.frozen 0;have vf1:=hn1.frozen 1;have vf2:=hn1.frozen 2;have vf3:=hn1.frozen 3;have vf4:=hn1.frozen 4;have vf5:=hn1.frozen 5
        clear hn1 hn2 hw0
        go_wp2_with fail
        go_region
        all_goals go_wp2_with fail
        refine bodyPost_ret (v:= .tuple #[.agg #[.slice none 0 0, .slice none 0 0, .slice none 0 0, .slice none 0 0, .slice none 0 0, .slice none 0 0], .int .i64 er]) ?_ rfl ?_
        ·have hx3:=(((((HN1.out.set 0 (.slice none 0 0)).set 1 (.slice none 0 0)).set 2 (.slice none 0 0)).set 3 (.slice none 0 0)).set 4 (.slice none 0 0)).set 5 (.slice none 0 0)
         have e0:=hx3.cell 0
         have e1:=hx3.cell 1
         have e2:=hx3.cell 2
         have e3:=hx3.cell 3
         have e4:=hx3.cell 4
         have e5:=hx3.cell 5
         simp at e0 e1 e2 e3 e4 e5
         simp[results,Tryz.results21,go_sem,e0,e1,e2,e3,e4,e5]
        ·refine kdZ (HO.out.symm.trans HF.out) HNE.out ?_
         repeat (first|((with_reducible refine fZ ?_ ?_);(focus (exact hwr1)))|(with_reducible refine Below.drew ?_))
         first|(with_reducible exact HBF.out)|(with_reducible exact Below.drew HBF.out)|(with_reducible exact below_drewN HBF.out _)
      ·obtain rfl:k0=nb:=by omega
       have gk:decide ((k0:Int)<(k0:Int))=false:=by simp
       have gk':decide (k0<k0)=false:=by simp
       have hGE:yhZ D=(C,S,at_,er0):=by
        have h:=HG.out
        rw[Nat.sub_self,mfZ]at h
        exact h.symm
       have hP:dP D=tZ 8388608 D at_ er0:=by unfold dP;rw[hGE]
       have hPA:dPA D=pZ 8388608 D at_ er0:=by unfold dPA;rw[hGE]
       have hPE:dPE D=qZ 8388608 D at_ er0:=by unfold dPE;rw[hGE]
       have hC:kcZ D=C:=by unfold kcZ;rw[hGE]
       have hS:qcZ D=S:=by unfold qcZ;rw[hGE]
       have HEC:=hid hC
       have HES:=hid hS
       have D3:=hid (fun wx hx=>DI.out wx at_ er0 8388608 (by omega) hx)
       rw[<-hP,<-hPA,<-hPE]at D3
       have D4:=hid (fun wx hx=>DI.out wx (dPA D) (dPE D) 8388608 (by omega) hx)
       rw[show tZ 8388608 D (dPA D) (dPE D)=dQ D from rfl]at D4
       have D5:=hid (fun wx hx=>zgZb wx g8 w3.heap.size D B8 d8 (pZ 8388608 D (dPA D) (dPE D)) (qZ 8388608 D (dPA D) (dPE D)) hDl2 hx)
       rw[show vgZ D (pZ 8388608 D (dPA D) (dPE D)) (qZ 8388608 D (dPA D) (dPE D))=dE D from rfl]at D5
       have hpv:dP D<=8388608:=by rw[hP];exact HV8.out _ _ _
       have hqv:dQ D<=8388608:=HV8.out _ _ _
       have hr:=HOD.out
       unfold asZ jhZ at hr
       rw[<-HDD.out,HRM.out,hC,hS,<-HREC.out]at hr
       obtain⟨P,hP2⟩:∃P,P=dP D:=⟨_,rfl⟩
       obtain⟨Q,hQ2⟩:∃Q,Q=dQ D:=⟨_,rfl⟩
       obtain⟨E,hE2⟩:∃E,E=dE D:=⟨_,rfl⟩
       rw[<-hP2]at D3 hpv hr
       rw[<-hQ2]at D4 hqv hr
       rw[<-hE2]at D5 hr
       have HEP:=hid hP2
       have HEQ:=hid hQ2
       generalize dPA D=pa at *
       generalize dPE D=pe at *
       generalize pZ 8388608 D pa pe=qa at *
       generalize qZ 8388608 D pa pe=qe at *
       have HR2:=hid hr
       clear hGE hP hPA hPE hC hS hr hP2 hQ2 hE2 HG HNB DI HV8 HV0 HOD
       go_wp2_with fail
       refine(D3.out _ HI.out.cur).mono ?_
       rintro e w14 ⟨rfl,hc14,hk14⟩
       have HI14:=hid (HI.out.call hc14 hk14)
       clear hc14 hk14 HI D3
       go_wp2_with fail
       refine(D4.out _ HI14.out.cur).mono ?_
       rintro e w15 ⟨rfl,hc15,hk15⟩
       have HI15:=hid (HI14.out.call hc15 hk15)
       clear hc15 hk15 HI14 D4
       go_wp2_with fail
       refine(D5.out _ HI15.out.cur).mono ?_
       rintro e w16 ⟨rfl,hc16,hk16⟩
       have hi16:=HI15.out.call hc16 ⟨hk16.os,hk16.tape,hk16.output,hk16.size,fun x hx=>hk16.block x hx.2⟩
       have HI16:=hid hi16
       have px:=hc16.cells.2.2
       have zi16:=hi16.bel.size
       clear hc16 hk16 hi16 HI15 D5
       by_cases hE:E=0
       ·subst hE
        have hr:=HR2.out
        rw[if_neg (show ¬((0:Int)≠0) from fun h=>h rfl),<-HTS.out,<-HHC.out]at hr
        have hBad:(0∈C∨hh≠rec∨tt+P+Q≠r)->O=2:=fun h=>by
         rw[if_pos h,if_pos (show(2:Int)≠0 by decide)]at hr
         exact hr
        have hGood:¬(0∈C∨hh≠rec∨tt+P+Q≠r)->O=zrZ o ls:=fun h=>by
         rw[if_neg h,if_neg (show ¬((0:Int)≠0) from fun h=>h rfl)]at hr
         exact hr
        clear px hr
        cases zb with
        |true=>
         have hz:0∈C:=of_decide_eq_true HZB.out.symm
         have HF:Hid (O=2):=hBad (.inl hz)
         have HNE:Hid ((2:Int)≠0):=show(2:Int)≠0 by decide
         have HBW:=hid HI16.out.bel
         clear hz HR2 HI16 hBad hGood
         have hn2:=HZ2.out.below HBW.out hr2
         have hn1:=HZ1.out.below HBW.out hr1
         have hw0:=HW3.out.trans (HBW.out.mono hzw3)
         have HBF:=hid hw0
         have HN1:=hid hn1
         have u0:=hn2.cell 0;have u1:=hn2.cell 1;have u2:=hn2.cell 2;have u3:=hn2.cell 3;have u4:=hn2.cell 4;have u5:=hn2.cell 5;simp only[List.getElem?_toArray,List.getElem?_cons_zero,List.getElem?_cons_succ]at u0 u1 u2 u3 u4 u5
         have v0:=hn1.cell 0;have v1:=hn1.cell 1;have v2:=hn1.cell 2;have v3:=hn1.cell 3;have v4:=hn1.cell 4;have v5:=hn1.cell 5;simp only[List.getElem?_toArray,List.getElem?_cons_zero,List.getElem?_cons_succ]at v0 v1 v2 v3 v4 v5
         have vf0:=hn1.frozen 0;have vf1:=hn1.frozen 1;have vf2:=hn1.frozen 2;have vf3:=hn1.frozen 3;have vf4:=hn1.frozen 4;have vf5:=hn1.frozen 5
         clear hn1 hn2 hw0
         go_wp2_with fail
         refine bodyPost_ret (v:= .tuple #[.agg #[.slice none 0 0, .slice none 0 0, .slice none 0 0, .slice none 0 0, .slice none 0 0, .slice none 0 0], .int .i64 2]) ?_ rfl ?_
         ·have hx3:=(((((HN1.out.set 0 (.slice none 0 0)).set 1 (.slice none 0 0)).set 2 (.slice none 0 0)).set 3 (.slice none 0 0)).set 4 (.slice none 0 0)).set 5 (.slice none 0 0)
          have e0:=hx3.cell 0
          have e1:=hx3.cell 1
          have e2:=hx3.cell 2
          have e3:=hx3.cell 3
          have e4:=hx3.cell 4
          have e5:=hx3.cell 5
          simp at e0 e1 e2 e3 e4 e5
          simp[results,Tryz.results21,go_sem,e0,e1,e2,e3,e4,e5]
         ·refine kdZ (HO.out.symm.trans HF.out) HNE.out ?_
          repeat (first|((with_reducible refine fZ ?_ ?_);(focus (exact hwr1)))|(with_reducible refine Below.drew ?_))
          first|(with_reducible exact HBF.out)|(with_reducible exact Below.drew HBF.out)|(with_reducible exact below_drewN HBF.out _)
        |false=>
         have hz:0 ∉ C:=of_decide_eq_false HZB.out.symm
         by_cases h2:hh=rec
         ·have gn:((hh:Int) != (rec:Int))=false:=by rw[h2];simp
          have t1:IntKind.i64.wrap ((tt:Int)+(P:Int))=((tt+P:Nat):Int):=by rw[IntWalk.i64_in _ (by omega)];omega
          have t2:IntKind.i64.wrap (((tt+P:Nat):Int)+(Q:Int))=((tt+P+Q:Nat):Int):=by rw[IntWalk.i64_in _ (by omega)];omega
          have t2':IntKind.i64.wrap ((tt:Int)+(P:Int)+(Q:Int))=((tt+P+Q:Nat):Int):=by rw[IntWalk.i64_in _ (by omega)];omega
          by_cases h3:tt+P+Q=r
          ·have g3:(((tt+P+Q:Nat):Int) != (r:Int))=false:=by rw[h3];simp
           have hr:=hGood (fun h=>by
            rcases h with h|h|h
            ·exact hz h
            ·exact h h2
            ·exact h h3)
           have HSUM:=hid h3
           have hN20:hh<=20000:=by omega
           have HHR:Hid (hh=rec):=h2
           obtain⟨TT,hTT⟩:∃TT,TT=tt+P+Q:=⟨_,rfl⟩
           rw[<-hTT]at t2 t2' g3
           have HOC:=hid hr
           clear hz h2 h3 hTT hr HR2 hBad hGood
           go_wp2_with fail
           have HJ0:Hid (RbJ w w3 w16 gx C S vc vs (.slice none 0 0) [] []):=⟨HI16.out.bx,HI16.out.oc,HI16.out.os,World.ownsRow_nil _ _ _ _,(fun i v b h=>by simp at h),HI16.out.bel,HI16.out.lo⟩
           have hos:=HJ0.out.os
           rw[HSL.out]at hos
           obtain⟨As,cs,rfl⟩:=bZ hos
           have hcS:Hid (∀k x,S[k]? =some x->(S.take (k+1)).sum=(S.take k).sum+x/\(S.take (k+1)).sum+P+Q<=r):=fun k x h=>by
            have h1:=upZ h
            have h2:=skZ S (k+1)
            have h3:=HSUM.out
            rw[HTS.out]at h3
            exact⟨h1,by omega⟩
           obtain⟨f0,hf0,hf1,hf2,hf3⟩:=info_parts owZ
           clear hos HI16 HZB
           go_wp2_with fail
           go_loopw [24,25] (fun av iv wr=>∃ (i at2 cf:Nat) (Af:Option Addr) (fv:List Value),i<=k0/\at2<=r/\av= .int .i64 at2/\iv= .int .i64 i/\Hid (at2=(S.take i).sum)/\Hid (RbJ w w3 wr gx C S vc (.slice As k0 cs) (.slice Af i cf) fv (sbZ (S.take i) (ls.take r)))) (fun _ iv _=>k0-(intOf iv).toNat)
           case atStart=>exact⟨0,0,0,none,[],by omega,by omega,rfl,rfl,rfl,HJ0.out⟩
           case round=>
            obtain⟨i,at2,cf,Af,fv,hik,hat2,rfl,rfl,HAT,HJ⟩:=hrel
            clear HJ0
            have zj:=HJ.out.bel.size
            by_cases hi:i<k0
            ·have gi:decide ((i:Int)<(k0:Int))=true:=by simp;omega
             have gi':decide (i<k0)=true:=by simp;omega
             obtain⟨x,hx⟩:∃x,S[i]? =some x:=⟨_,List.getElem?_eq_getElem (by rw[HSL.out];exact hi)⟩
             obtain⟨hs1,hs2⟩:=hcS.out i x hx
             rw[<-HAT.out]at hs1
             have HXI:Hid (S[i]? =some x):=hx
             have hos:=HJ.out.os
             rw[HSL.out]at hos
             obtain⟨gv,cv,hAv,hgv,_⟩:=hos.form (by omega)
             injection hAv with q1 q2 q3
             subst q1 q3
             clear q2
             have ck:wr.cell? ⟨gv,i,none⟩=some (.int .i64 (x:Nat)):=by
              rw[hos.cellAt i (by omega)]
              unfold cZ
              rw[List.getElem?_map,hx]
              rfl
             have x10:(0:Int)<=(i:Int):=by omega
             have x11:(i:Int)<(k0:Int):=by omega
             have hax:at2+x<=r:=by omega
             obtain⟨y,hy⟩:∃y,y=at2+x:=⟨_,rfl⟩
             have sax:IntKind.i64.wrap ((at2:Int)+(x:Int))=(y:Int):=by rw[IntWalk.i64_in _ (by omega)];omega
             have ks3:=fun wx=>ihZ (P:=Tryz.prog) (t:=22) (s:=1) Tryz.underlying22 (fun _=>by kernel_rfl) A (m+4) c .i64 .i64 (at2:Int) (y:Int) at2 y rfl rfl (by omega) (by omega) wx
             rw[show y-at2=x by omega]at ks3
             have hyr:y<=r:=by omega
             have HSI:Hid (mnZ w w.heap.size (.slice (sZ A at2 c 1) x (c-at2)) (((ls.take r).drop at2).take x)):=by
              refine⟨_,_,_,rfl,by omega,by rw[List.length_take,List.length_drop,List.length_take,HN.out];omega,fun e=> ?_,?_⟩
              ·have:=Idx.cut_none HN0.out e
               omega
              ·rw[wwZ ls hax]
               exact hbZ (uZ HA.out (show at2<=m+4 by omega) hc) (by omega)
             have HCS:Hid (sbZ (S.take (i+1)) (ls.take r)=sbZ (S.take i) (ls.take r)++ [((ls.take r).drop at2).take x]):=by
              show _=_
              rw[vqZ _ hx,<-HAT.out]
             have HAT2:Hid (y=(S.take (i+1)).sum):=hy.trans hs1.symm
             have q1:=HJ.out.bx.cell 1
             simp only[List.getElem?_toArray,List.getElem?_cons_zero,List.getElem?_cons_succ]at q1
             have HFL:Hid ((sbZ (S.take i) (ls.take r)).length=i):=by show _=_;rw[okZ,List.length_take,HSL.out];omega
             have hofr:=HJ.out.ofr
             rw[HFL.out]at hofr
             have HOF2:=hid hofr
             have z1:(wr.alloc (.cells #[.slice (sZ A at2 c 1) x (c-at2)] 22)).cell? ⟨gx,1,none⟩=some (.slice Af i cf):=by
              have h:=(HJ.out.bx.alloc (.cells #[.slice (sZ A at2 c 1) x (c-at2)] 22)).cell 1
              simpa using h
             generalize sZ A at2 c 1=A9 at *
             generalize c-at2=c9 at *
             clear hx hs1 hs2 hos hofr hy hax
             go_upto_region 42 with fail
             go_region_law(refine mkZ rfl (.tmp 150) (.tmp 160) 31 rfl w3.heap.size 22 f0 _ 1 24 Tryz.underlying31 hf0 hf1 hf2 hf3 rfl (by decide) (.slice Af i cf) i fv (by rfl) ((HOF2.out.alloc (.cells #[.slice A9 x c9] 22)).drew) _ 1 1 [.slice A9 x c9] (by rfl) (Src.of_blk ((Blk.made wr 22 #[.slice A9 x c9]).drew) 1 1 1 rfl) (by intro u hu;simp at hu;rcases hu with rfl;rfl) (by unfold maxLen;omega) (by omega) (by simp;omega) ?_;intro A17 c17 w17 hown17 hg17 hat17;have b17:=(HJ.out.bx.alloc (.cells #[.slice A9 x c9] 22)).drew.grown hg17 (Ne.symm (jZ HJ.out.ofr HJ.out.bx (by decide)));have u1:=b17.cell 1;have u2:=b17.frozen 1;simp only[List.getElem?_toArray,List.getElem?_cons_zero,List.getElem?_cons_succ]at u1)
             all_goals
              have HJ5:Hid (RbJ w w3 (w17.setCell ⟨gx,1,none⟩ (.slice A17 (i+1) c17)) gx C S vc (.slice (some ⟨gv,0,none⟩) k0 cs) (.slice A17 (i+1) c17) (fv++ [.slice A9 x c9]) (sbZ (S.take (i+1)) (ls.take r))):=by
               show RbJ _ _ _ _ _ _ _ _ _ _ _
               rw[HCS.out]
               exact HJ.out.add (o:= .cells #[.slice A9 x c9] 22) HSI.out ⟨hg17.1,hg17.2,hg17.3,hg17.4,hg17.5⟩ (by rw[HFL.out];exact hown17)
              clear hown17 hg17 hat17 b17 u1 u2 q1 z1 HJ HSI HOF2 ck
              generalize w17.setCell ⟨gx,1,none⟩ (.slice A17 (i+1) c17)=w18 at *
              have hos:=HJ5.out.os
              rw[HSL.out]at hos
              have ck:w18.cell? ⟨gv,i,none⟩=some (.int .i64 (x:Nat)):=by
               rw[hos.cellAt i (by omega)]
               unfold cZ
               rw[List.getElem?_map,HXI.out]
               rfl
              clear hos
              go_wp2_with fail
              go_roundw
              case measure=>go_light;simp[intOf];omega
              case rel=>go_light;exact⟨i+1,y,c17,A17,fv++ [Value.slice A9 x c9],by omega,hyr,rfl,by first|rfl|go_num,HAT2.out,HJ5.out⟩
            ·obtain rfl:i=k0:=by omega
             have gi:decide ((i:Int)<(i:Int))=false:=by simp
             have htk:S.take i=S:=List.take_of_length_le (by rw[HSL.out];exact Nat.le_refl _)
             have hat:=HAT.out
             rw[htk]at hat
             have HJ2:Hid (RbJ w w3 wr gx C S vc (.slice As i cs) (.slice Af i cf) fv (sbZ S (ls.take r))):=by
              have h:=HJ.out
              rw[htk]at h
              exact h
             have hsum:=HSUM.out
             rw[HTS.out,<-hat]at hsum
             clear HJ HAT htk
             obtain⟨x1,hx1⟩:∃y,y=at2+P:=⟨_,rfl⟩
             have sa1:IntKind.i64.wrap ((at2:Int)+(P:Int))=(x1:Int):=by rw[IntWalk.i64_in _ (by omega)];omega
             have ks4:=fun wx=>ihZ (P:=Tryz.prog) (t:=22) (s:=1) Tryz.underlying22 (fun _=>by kernel_rfl) A (m+4) c .i64 .i64 (at2:Int) (x1:Int) at2 x1 rfl rfl (by omega) (by omega) wx
             rw[show x1-at2=P by omega]at ks4
             have sa2:IntKind.i64.wrap ((x1:Int)+(Q:Int))=(r:Int):=by rw[IntWalk.i64_in _ (by omega)];omega
             have ks5:=fun wx=>ihZ (P:=Tryz.prog) (t:=22) (s:=1) Tryz.underlying22 (fun _=>by kernel_rfl) A (m+4) c .i64 .i64 (x1:Int) (r:Int) x1 r rfl rfl (by omega) (by omega) wx
             rw[show r-x1=Q by omega]at ks5
             obtain⟨col,hcol⟩:∃col,col=((ls.take r).drop at2).take P:=⟨_,rfl⟩
             obtain⟨idx,hidx⟩:∃idx,idx=(ls.take r).drop x1:=⟨_,rfl⟩
             have hcl:col.length=P:=by rw[hcol,List.length_take,List.length_drop,List.length_take,HN.out];omega
             have hil:idx.length=Q:=by rw[hidx,List.length_drop,List.length_take,HN.out];omega
             have hc8:∀x∈col,x<=255:=fun x hx=>by rw[hcol]at hx;exact H8.out x (List.mem_of_mem_take (List.mem_of_mem_drop (List.mem_of_mem_take hx)))
             have hi8:∀x∈idx,x<=255:=fun x hx=>by rw[hidx]at hx;exact H8.out x (List.mem_of_mem_take (List.mem_of_mem_drop hx))
             have hrc:Row w w.heap.size (sZ A at2 c 1) P 1 (mZ .u8 col):=by rw[hcol,wwZ ls (by omega)];exact hbZ (uZ HA.out (show at2<=m+4 by omega) hc) (by omega)
             have hri:Row w w.heap.size (sZ A x1 c 1) Q 1 (mZ .u8 idx):=by
              have h:idx=(ls.drop x1).take Q:=by rw[hidx,List.drop_take];congr 1;omega
              rw[h]
              exact hbZ (uZ HA.out (show x1<=m+4 by omega) hc) (by omega)
             have HRI:=hid hri
             have HI8:=hid hi8
             have HIL:=hid hil
             have hcc1:P<=c-at2:=by omega
             have hcc2:Q<=c-x1:=by omega
             have zj2:=HJ2.out.bel.size
             have D6:=Block.amZ wr (sZ A at2 c 1) P (c-at2) col hcl (by omega) hcc1 hc8 ((hrc.below (HW3.out.trans (HJ2.out.bel.mono hzw3))).mono (by omega))
             unfold deZ at D6
             have hO:=HOC.out
             unfold zrZ oN bdZ at hO
             rw[<-HDD.out,HRM.out,HEC.out,HES.out,<-HEP.out,<-HHC.out,<-hat,<-hcol]at hO
             have HC8:Hid (∀x∈xZ col,x<=255):=tgZ hc8
             have hco:(xZ col).length<=100000:=by have:=qjZ col;omega
             unfold tkZ at hO
             have HCOL:=hid hcol
             have HIDX:=hid hidx
             have HATS:=hid hat
             have HX1:=hid hx1
             generalize icZ col=ce at *
             obtain⟨co,hco2⟩:∃co,co=xZ col:=⟨_,rfl⟩
             rw[<-hco2]at D6 hO HC8 hco
             have HCO:=hid hco2
             obtain⟨cm,hcm⟩:∃cm,cm=co.length:=⟨_,rfl⟩
             rw[<-hcm]at D6 hO hco
             have HCM:=hid hcm
             have D6:=hid D6
             have HOE:=hid hO
             generalize sZ A at2 c 1=A21 at *
             generalize c-at2=c21 at *
             generalize sZ A x1 c 1=A22 at *
             generalize c-x1=c22 at *
             have hx1r:x1<=r:=by omega
             have hQr:Q<=r:=by omega
             clear hsum hx1 hcol hidx hcl hil hc8 hi8 hrc hri hat hO hco2 hcm HOC hcS HSUM HTS
             go_wp2_with fail
             refine D6.out.mono ?_
             rintro e w20 ⟨v20,rfl,ho20,hb20⟩
             obtain⟨A20,c20,rfl⟩:=bZ ho20
             have z20:=hb20.size
             have HB20:Hid (Below w3.heap.size w3 w20):=HJ2.out.bel.trans (hb20.mono zj2)
             have hx20:=HJ2.out.bx.step hb20
             have HX20:=hid hx20
             have HOC20:=hid (eZ HJ2.out.oc (fun y hy=>hb20.block y (World.ownsRow.lt HJ2.out.oc y hy).2))
             have HOF20:=hid (eZ HJ2.out.ofr (fun y hy=>hb20.block y (World.ownsRow.lt HJ2.out.ofr y hy).2))
             have HFIN:=hid HJ2.out.fin
             have HO20:=hid ho20
             clear ho20 hb20 hx20 HJ2 D6
             by_cases hce:ce=0
             ·subst hce
              have hO:=HOE.out
              rw[if_neg (show ¬((0:Int)≠0) from fun h=>h rfl)]at hO
              have hhr:=HHR.out
              subst hhr
              have hrow20:Row w20 w20.heap.size A20 cm 1 (mZ .u8 co):=by have h:=HO20.out;rw[HCM.out]at h;have h2:=own_row h;rw[<-HCM.out]at h2;exact h2
              have D7:=ytZ w20 A20 cm c20 co hh HCM.out.symm hco HC8.out (fhZ HO20.out) hrow20 hN20
              obtain⟨R4,hR4⟩:∃R4,R4=jbZ hh co:=⟨_,rfl⟩
              rw[<-hR4]at D7 hO
              have HR4:=hid hR4
              obtain⟨ct,cl,ck,cer⟩:=R4
              unfold phZ at D7
              simp only at D7 hO
              have D7:=hid D7
              have HOE2:=hid hO
              clear hO hrow20 hR4 HOE HO20
              go_wp2_with fail
              refine D7.out.mono ?_
              rintro e w21 ⟨vt,vl,rfl,hot,hol,hb21⟩
              obtain⟨nct,hnct⟩:∃x,x=ct.length:=⟨_,rfl⟩
              obtain⟨ncl,hncl⟩:∃x,x=cl.length:=⟨_,rfl⟩
              rw[<-hnct]at hot
              rw[<-hncl]at hol
              obtain⟨At,nt,rfl⟩:=bZ hot
              obtain⟨Al,nl,rfl⟩:=bZ hol
              have z21:=hb21.size
              have hx21:=HX20.out.step hb21
              have q2:=hx21.cell 2
              have q3:=hx21.cell 3
              have f2:=hx21.frozen 2
              have f3:=hx21.frozen 3
              simp only[List.getElem?_toArray,List.getElem?_cons_zero,List.getElem?_cons_succ]at q2 q3
              have hx22:Blk ((w21.setCell ⟨gx,2,none⟩ (.slice At nct nt)).setCell ⟨gx,3,none⟩ (.slice Al ncl nl)) gx 38 #[vc, .slice Af i cf, .slice At nct nt, .slice Al ncl nl, .slice none 0 0, .slice none 0 0]:=by simpa using (hx21.set 2 (.slice At nct nt)).set 3 (.slice Al ncl nl)
              have hk22:Kept (fun x=>x<w21.heap.size/\x≠gx) w21 ((w21.setCell ⟨gx,2,none⟩ (.slice At nct nt)).setCell ⟨gx,3,none⟩ (.slice Al ncl nl)):=((Kept.refl _ _).set (fun h=>h.2 rfl) _).set (fun h=>h.2 rfl) _
              have far:∀ {b n:Nat} {e:TypeId} {v:Value} {xs:List Value},w21.ownsRow b e 1 v n xs->e≠38->((w21.setCell ⟨gx,2,none⟩ (.slice At nct nt)).setCell ⟨gx,3,none⟩ (.slice Al ncl nl)).ownsRow b e 1 v n xs:=fun ho hne=>eZ ho fun y hy=>hk22.block y ⟨(World.ownsRow.lt ho y hy).2,fun e=>jZ ho hx21 hne (e ▸ hy)⟩
              have HOC22:=hid (far (eZ HOC20.out (fun y hy=>hb21.block y (World.ownsRow.lt HOC20.out y hy).2)) (by decide))
              have HOF22:=hid (far (eZ HOF20.out (fun y hy=>hb21.block y (World.ownsRow.lt HOF20.out y hy).2)) (by decide))
              have HOT22:=hid (far (lZ hot (show w3.heap.size<=w20.heap.size by omega)) (by decide))
              have HOL22:=hid (far (lZ hol (show w3.heap.size<=w20.heap.size by omega)) (by decide))
              have HB22:Hid (Below w3.heap.size w3 ((w21.setCell ⟨gx,2,none⟩ (.slice At nct nt)).setCell ⟨gx,3,none⟩ (.slice Al ncl nl))):=fZ (by show _<=gx;omega) (fZ (by show _<=gx;omega) (HB20.out.trans (hb21.mono (by omega))))
              have HX22:=hid hx22
              have z22:=hk22.size
              have HNCT:=hid hnct
              have HNCL:=hid hncl
              clear hot hol hb21 hx21 hx22 far HX20 HOC20 HOF20 HB20 D7 hnct hncl
              by_cases hcer:cer=0
              ·subst hcer
               have hO:=HOE2.out
               rw[if_neg (show ¬((0:Int)≠0) from fun h=>h rfl)]at hO
               by_cases hlt:ck<cm
               ·have gl:decide ((ck:Int)<(cm:Int))=true:=by simp;omega
                have gl':decide (ck<cm)=true:=by simp;omega
                have HF:Hid (O=2):=by rw[if_pos hlt,if_pos (show(2:Int)≠0 by decide)]at hO;exact hO
                have HNE:Hid ((2:Int)≠0):=show(2:Int)≠0 by decide
                have HBW:=HB22
                clear hlt hO HOE2 HX22 HOC22 HOF22 HOT22 HOL22
                have hn2:=HZ2.out.below HBW.out hr2
                have hn1:=HZ1.out.below HBW.out hr1
                have hw0:=HW3.out.trans (HBW.out.mono hzw3)
                have HBF:=hid hw0
                have HN1:=hid hn1
                have u0:=hn2.cell 0;have u1:=hn2.cell 1;have u2:=hn2.cell 2;have u3:=hn2.cell 3;have u4:=hn2.cell 4;have u5:=hn2.cell 5;simp only[List.getElem?_toArray,List.getElem?_cons_zero,List.getElem?_cons_succ]at u0 u1 u2 u3 u4 u5
                have v0:=hn1.cell 0;have v1:=hn1.cell 1;have v2:=hn1.cell 2;have v3:=hn1.cell 3;have v4:=hn1.cell 4;have v5:=hn1.cell 5;simp only[List.getElem?_toArray,List.getElem?_cons_zero,List.getElem?_cons_succ]at v0 v1 v2 v3 v4 v5
                have vf0:=hn1.frozen 0;have vf1:=hn1.frozen 1;have vf2:=hn1.frozen 2;have vf3:=hn1.frozen 3;have vf4:=hn1.frozen 4;have vf5:=hn1.frozen 5
                clear hn1 hn2 hw0
                go_wp2_with fail
                refine bodyPost_ret (v:= .tuple #[.agg #[.slice none 0 0, .slice none 0 0, .slice none 0 0, .slice none 0 0, .slice none 0 0, .slice none 0 0], .int .i64 2]) ?_ rfl ?_
                ·have hx3:=(((((HN1.out.set 0 (.slice none 0 0)).set 1 (.slice none 0 0)).set 2 (.slice none 0 0)).set 3 (.slice none 0 0)).set 4 (.slice none 0 0)).set 5 (.slice none 0 0)
                 have e0:=hx3.cell 0
                 have e1:=hx3.cell 1
                 have e2:=hx3.cell 2
                 have e3:=hx3.cell 3
                 have e4:=hx3.cell 4
                 have e5:=hx3.cell 5
                 simp at e0 e1 e2 e3 e4 e5
                 simp[results,Tryz.results21,go_sem,e0,e1,e2,e3,e4,e5]
                ·refine kdZ (HO.out.symm.trans HF.out) HNE.out ?_
                 repeat (first|((with_reducible refine fZ ?_ ?_);(focus (exact hwr1)))|(with_reducible refine Below.drew ?_))
                 first|(with_reducible exact HBF.out)|(with_reducible exact Below.drew HBF.out)|(with_reducible exact below_drewN HBF.out _)
               ·have gl:decide ((ck:Int)<(cm:Int))=false:=by simp;omega
                have gl':decide (ck<cm)=false:=by simp;omega
                rw[if_neg hlt,if_neg (show ¬((0:Int)≠0) from fun h=>h rfl)]at hO
                unfold opnI yfZ oN at hO
                rw[HBT.out,<-HDD.out,HRM.out,HEC.out,HES.out,<-HEP.out,<-HHC.out,<-HATS.out,<-HX1.out,<-HIDX.out]at hO
                have HOP:=hid hO
                clear hlt hO HOE2
                go_wp2_with fail
                generalize (w21.setCell ⟨gx,2,none⟩ (.slice At nct nt)).setCell ⟨gx,3,none⟩ (.slice Al ncl nl)=w22 at *
                have zz22:=HB22.out.size
                have D8:=Block.amZ w22 A22 Q c22 idx HIL.out (by omega) hcc2 HI8.out ((HRI.out.below (HW3.out.trans (HB22.out.mono hzw3))).mono (by omega))
                unfold deZ at D8
                have hO:=HOP.out
                have hxl:(xZ idx).length<=100000:=by have:=qjZ idx;rw[HIL.out]at this;omega
                have HX8:Hid (∀x∈xZ idx,x<=255):=tgZ HI8.out
                generalize icZ idx=ie at *
                obtain⟨xi,hxi⟩:∃xi,xi=xZ idx:=⟨_,rfl⟩
                rw[<-hxi]at D8 hxl HX8 hO
                have HXI:=hid hxi
                obtain⟨xm,hxm⟩:∃xm,xm=xi.length:=⟨_,rfl⟩
                rw[<-hxm]at D8 hxl
                have HXM:=hid hxm
                have HOI:=hid hO
                have D8:=hid D8
                clear hO hxi hxm HOP
                refine D8.out.mono ?_
                rintro e w23 ⟨v23,rfl,ho23,hb23⟩
                obtain⟨A23,c23,rfl⟩:=bZ ho23
                have z23:=hb23.size
                have HB23:Hid (Below w3.heap.size w3 w23):=HB22.out.trans (hb23.mono zz22)
                have HX23:=hid (HX22.out.step hb23)
                have HOC23:=hid (eZ HOC22.out (fun y hy=>hb23.block y (World.ownsRow.lt HOC22.out y hy).2))
                have HOF23:=hid (eZ HOF22.out (fun y hy=>hb23.block y (World.ownsRow.lt HOF22.out y hy).2))
                have HOT23:=hid (eZ HOT22.out (fun y hy=>hb23.block y (World.ownsRow.lt HOT22.out y hy).2))
                have HOL23:=hid (eZ HOL22.out (fun y hy=>hb23.block y (World.ownsRow.lt HOL22.out y hy).2))
                have HO23:=hid ho23
                clear ho23 hb23 HX22 HOC22 HOF22 HOT22 HOL22 HB22 D8
                by_cases hie:ie=0
                ·subst hie
                 have hO:=HOI.out
                 rw[if_neg (show ¬((0:Int)≠0) from fun h=>h rfl)]at hO
                 have hwf:=lfZ HO23.out
                 have hrow:Row w23 w23.heap.size A23 xm 1 (mZ .u8 xi):=by have h:=HO23.out;rw[HXM.out]at h;have h2:=own_row h;rw[<-HXM.out]at h2;exact h2
                 have D9:=apZ w23 A23 xm c23 bu hh xi HXM.out.symm hxl HX8.out hwf.2 hwf.1 hrow hbu1 hbu2 hN20
                 unfold Idx.pjZ at D9
                 obtain⟨X,hX⟩:∃X,X=Idx.ixR bu hh xi:=⟨_,rfl⟩
                 rw[<-hX]at D9 hO
                 have HXX:=hid hX
                 obtain⟨xv,xe⟩:=X
                 simp only at D9 hO
                 have HOJ:=hid hO
                 have D9:=hid D9
                 have k23:w23.cell? ⟨w.heap.size,2,none⟩=some (.int .i64 (bu:Nat)):=(HOB.out.below HB23.out (by omega)).cell 2
                 clear hO hwf hrow hX HOI HO23
                 go_wp2_with fail
                 refine D9.out.mono ?_
                 rintro e w24 ⟨vT,vL,vals,rfl,hix,hb24⟩
                 obtain⟨n1,hn1⟩:∃x,x=xv.1.length:=⟨_,rfl⟩
                 obtain⟨n2,hn2⟩:∃x,x=xv.2.length:=⟨_,rfl⟩
                 have hxt:=hix.t
                 have hxl2:=hix.l
                 rw[<-hn1]at hxt
                 rw[<-hn2]at hxl2
                 obtain⟨AT,cT,rfl⟩:=bZ hxt
                 obtain⟨AL,cL,rfl⟩:=bZ hxl2
                 clear hn1 hn2
                 have z24:=hb24.size
                 have hx24:=HX23.out.step hb24
                 have q4:=hx24.cell 4
                 have q5:=hx24.cell 5
                 have f4:=hx24.frozen 4
                 have f5:=hx24.frozen 5
                 simp only[List.getElem?_toArray,List.getElem?_cons_zero,List.getElem?_cons_succ]at q4 q5
                 have hx25:Blk ((w24.setCell ⟨gx,4,none⟩ (.slice AT n1 cT)).setCell ⟨gx,5,none⟩ (.slice AL n2 cL)) gx 38 #[vc, .slice Af i cf, .slice At nct nt, .slice Al ncl nl, .slice AT n1 cT, .slice AL n2 cL]:=by simpa using (hx24.set 4 (.slice AT n1 cT)).set 5 (.slice AL n2 cL)
                 have hk25:Kept (fun x=>x<w24.heap.size/\x≠gx) w24 ((w24.setCell ⟨gx,4,none⟩ (.slice AT n1 cT)).setCell ⟨gx,5,none⟩ (.slice AL n2 cL)):=((Kept.refl _ _).set (fun h=>h.2 rfl) _).set (fun h=>h.2 rfl) _
                 have far:∀ {b n:Nat} {e:TypeId} {v:Value} {xs:List Value},w24.ownsRow b e 1 v n xs->e≠38->((w24.setCell ⟨gx,4,none⟩ (.slice AT n1 cT)).setCell ⟨gx,5,none⟩ (.slice AL n2 cL)).ownsRow b e 1 v n xs:=fun ho hne=>eZ ho fun y hy=>hk25.block y ⟨(World.ownsRow.lt ho y hy).2,fun e=>jZ ho hx24 hne (e ▸ hy)⟩
                 have HB25:Hid (Below w3.heap.size w3 ((w24.setCell ⟨gx,4,none⟩ (.slice AT n1 cT)).setCell ⟨gx,5,none⟩ (.slice AL n2 cL))):=fZ (by show _<=gx;omega) (fZ (by show _<=gx;omega) (HB23.out.trans (hb24.mono (by omega))))
                 by_cases hxe:xe=0
                 ·subst hxe
                  have hz3:w3.heap.size<=w23.heap.size:=by omega
                  have HRB:Hid (RBodyAt2 w w3 ((w24.setCell ⟨gx,4,none⟩ (.slice AT n1 cT)).setCell ⟨gx,5,none⟩ (.slice AL n2 cL)) vc (.slice Af i cf) (.slice At nct nt) (.slice Al ncl nl) (.slice AT n1 cT) (.slice AL n2 cL) C ct cl xv (sbZ S (ls.take r))):=
                   ⟨vals,fv,far (eZ HOC23.out (fun y hy=>hb24.block y (World.ownsRow.lt HOC23.out y hy).2)) (by decide),far (eZ HOF23.out (fun y hy=>hb24.block y (World.ownsRow.lt HOF23.out y hy).2)) (by decide),HFIN.out,by rw[<-HNCT.out];exact far (eZ HOT23.out (fun y hy=>hb24.block y (World.ownsRow.lt HOT23.out y hy).2)) (by decide),by rw[<-HNCL.out];exact far (eZ HOL23.out (fun y hy=>hb24.block y (World.ownsRow.lt HOL23.out y hy).2)) (by decide),⟨far (lZ hix.t hz3) (by decide),far (lZ hix.l hz3) (by decide),fun i v ids hv hi=>far (lZ (hix.r i v ids hv hi) hz3) (by decide)⟩⟩
                  have HX25:=hid hx25
                  have hvc:=HRB.out.shape
                  obtain⟨Ac2,nc2,cc2,rfl⟩:=hvc
                  have hn1b:=HZ1.out.below HB25.out hr1
                  have HN1:=hid hn1b
                  have s0:=hx24.cell 0
                  have s1c:=hx24.cell 1
                  have s2c:=hx24.cell 2
                  have s3c:=hx24.cell 3
                  simp only[List.getElem?_toArray,List.getElem?_cons_zero,List.getElem?_cons_succ]at s0 s1c s2c s3c
                  have v0:=hn1b.cell 0;have v1:=hn1b.cell 1;have v2:=hn1b.cell 2;have v3:=hn1b.cell 3;have v4:=hn1b.cell 4;have v5:=hn1b.cell 5;simp only[List.getElem?_toArray,List.getElem?_cons_zero,List.getElem?_cons_succ]at v0 v1 v2 v3 v4 v5
                  have vf0:=hn1b.frozen 0;have vf1:=hn1b.frozen 1;have vf2:=hn1b.frozen 2;have vf3:=hn1b.frozen 3;have vf4:=hn1b.frozen 4;have vf5:=hn1b.frozen 5
                  have hn24:=HZ1.out.below (HB23.out.trans (hb24.mono (by omega)):Below w3.heap.size w3 w24) hr1
                  have y0:=hn24.cell 0;have y1:=hn24.cell 1;have y2:=hn24.cell 2;have y3:=hn24.cell 3;have y4:=hn24.cell 4;have y5:=hn24.cell 5;simp only[List.getElem?_toArray,List.getElem?_cons_zero,List.getElem?_cons_succ]at y0 y1 y2 y3 y4 y5
                  have yf0:=hn24.frozen 0;have yf1:=hn24.frozen 1;have yf2:=hn24.frozen 2;have yf3:=hn24.frozen 3;have yf4:=hn24.frozen 4;have yf5:=hn24.frozen 5
                  have hgr1:¬gx=r1:=by omega
                  have hgr2:¬r1=gx:=by omega
                  clear hn24
                  have HFO:Hid (idZ o ls=0):=HO.out.symm.trans HOJ.out
                  have HBF:Hid (Below w.heap.size w ((w24.setCell ⟨gx,4,none⟩ (.slice AT n1 cT)).setCell ⟨gx,5,none⟩ (.slice AL n2 cL))):=HW3.out.trans (HB25.out.mono hzw3)
                  clear hix hxt hxl2 hb24 hx24 hx25 hk25 far hn1b
                  go_wp2_with fail
                  generalize (w24.setCell ⟨gx,4,none⟩ (.slice AT n1 cT)).setCell ⟨gx,5,none⟩ (.slice AL n2 cL)=w25 at *
                  have hk26:Kept (fun x=>x<w25.heap.size/\x≠r1) w25 ((((((w25.setCell ⟨r1,0,none⟩ (.slice Ac2 nc2 cc2)).setCell ⟨r1,1,none⟩ (.slice Af i cf)).setCell ⟨r1,2,none⟩ (.slice At nct nt)).setCell ⟨r1,3,none⟩ (.slice Al ncl nl)).setCell ⟨r1,4,none⟩ (.slice AT n1 cT)).setCell ⟨r1,5,none⟩ (.slice AL n2 cL)):=(((((((Kept.refl _ _).set (fun h=>h.2 rfl) _).set (fun h=>h.2 rfl) _).set (fun h=>h.2 rfl) _).set (fun h=>h.2 rfl) _).set (fun h=>h.2 rfl) _).set (fun h=>h.2 rfl) _)
                  have HDN:=hid (HRB.out.done hk26 hr1 hzw3)
                  clear hk26
                  refine bodyPost_ret (v:= .tuple #[.agg #[.slice Ac2 nc2 cc2, .slice Af i cf, .slice At nct nt, .slice Al ncl nl, .slice AT n1 cT, .slice AL n2 cL], .int .i64 0]) ?_ rfl ?_
                  ·have hx3:=((((((HN1.out.set 0 (.slice Ac2 nc2 cc2)).set 1 (.slice Af i cf)).set 2 (.slice At nct nt)).set 3 (.slice Al ncl nl)).set 4 (.slice AT n1 cT)).set 5 (.slice AL n2 cL))
                   have e0:=hx3.cell 0
                   have e1:=hx3.cell 1
                   have e2:=hx3.cell 2
                   have e3:=hx3.cell 3
                   have e4:=hx3.cell 4
                   have e5:=hx3.cell 5
                   simp at e0 e1 e2 e3 e4 e5
                   simp[results,Tryz.results21,go_sem,e0,e1,e2,e3,e4,e5]
                  ·refine⟨?_,_,by rw[HFO.out],fun h=>absurd HFO.out h,fun _=> ?_⟩
                   ·repeat (first|((with_reducible refine fZ ?_ ?_);(focus (exact hwr1)))|(with_reducible refine Below.drew ?_))
                    exact HBF.out
                   ·have h:=HDN.out
                    rw[show oN ls=hh by unfold oN;rw[<-HDD.out,HEC.out,HHC.out],show bdZ ls=col by unfold bdZ;rw[<-HDD.out,HRM.out,HES.out,<-HEP.out,<-HATS.out,HCOL.out],show yfZ ls=idx by unfold yfZ;rw[<-HDD.out,HRM.out,HES.out,<-HEP.out,<-HATS.out,<-HX1.out,HIDX.out],HBT.out,<-HDD.out,HEC.out,HES.out,HRM.out,<-HCO.out,<-HR4.out,<-HXI.out,<-HXX.out]
                    exact h
                 ·have gE:(xe != 0)=true:=by simpa using hxe
                  have HF:Hid (O=xe):=HOJ.out
                  have HNE:=hid hxe
                  have HBW:=HB25
                  obtain⟨er,her⟩:∃er:Int,er=xe:=⟨_,rfl⟩
                  subst her
                  clear hxe HOJ HX23 HOC23 HOF23 HOT23 HOL23 hix hxt hxl2 hb24 hx24 hx25 hk25 far
                  have hn2:=HZ2.out.below HBW.out hr2
                  have hn1:=HZ1.out.below HBW.out hr1
                  have hw0:=HW3.out.trans (HBW.out.mono hzw3)
                  have HBF:=hid hw0
                  have HN1:=hid hn1
                  have u0:=hn2.cell 0;have u1:=hn2.cell 1;have u2:=hn2.cell 2;have u3:=hn2.cell 3;have u4:=hn2.cell 4;have u5:=hn2.cell 5;simp only[List.getElem?_toArray,List.getElem?_cons_zero,List.getElem?_cons_succ]at u0 u1 u2 u3 u4 u5
                  have v0:=hn1.cell 0;have v1:=hn1.cell 1;have v2:=hn1.cell 2;have v3:=hn1.cell 3;have v4:=hn1.cell 4;have v5:=hn1.cell 5;simp only[List.getElem?_toArray,List.getElem?_cons_zero,List.getElem?_cons_succ]at v0 v1 v2 v3 v4 v5
                  have vf0:=hn1.frozen 0;have vf1:=hn1.frozen 1;have vf2:=hn1.frozen 2;have vf3:=hn1.frozen 3;have vf4:=hn1.frozen 4;have vf5:=hn1.frozen 5
                  clear hn1 hn2 hw0
                  go_wp2_with fail
                  refine bodyPost_ret (v:= .tuple #[.agg #[.slice none 0 0, .slice none 0 0, .slice none 0 0, .slice none 0 0, .slice none 0 0, .slice none 0 0], .int .i64 er]) ?_ rfl ?_
                  ·have hx3:=(((((HN1.out.set 0 (.slice none 0 0)).set 1 (.slice none 0 0)).set 2 (.slice none 0 0)).set 3 (.slice none 0 0)).set 4 (.slice none 0 0)).set 5 (.slice none 0 0)
                   have e0:=hx3.cell 0
                   have e1:=hx3.cell 1
                   have e2:=hx3.cell 2
                   have e3:=hx3.cell 3
                   have e4:=hx3.cell 4
                   have e5:=hx3.cell 5
                   simp at e0 e1 e2 e3 e4 e5
                   simp[results,Tryz.results21,go_sem,e0,e1,e2,e3,e4,e5]
                  ·refine kdZ (HO.out.symm.trans HF.out) HNE.out ?_
                   repeat (first|((with_reducible refine fZ ?_ ?_);(focus (exact hwr1)))|(with_reducible refine Below.drew ?_))
                   first|(with_reducible exact HBF.out)|(with_reducible exact Below.drew HBF.out)|(with_reducible exact below_drewN HBF.out _)
                ·have gE:(ie != 0)=true:=by simpa using hie
                 have HF:Hid (O=ie):=by have h:=HOI.out;rw[if_pos hie]at h;exact h
                 have HNE:=hid hie
                 have HBW:=HB23
                 obtain⟨er,her⟩:∃er:Int,er=ie:=⟨_,rfl⟩
                 subst her
                 clear hie HOI HX23 HOC23 HOF23 HOT23 HOL23 HO23
                 have hn2:=HZ2.out.below HBW.out hr2
                 have hn1:=HZ1.out.below HBW.out hr1
                 have hw0:=HW3.out.trans (HBW.out.mono hzw3)
                 have HBF:=hid hw0
                 have HN1:=hid hn1
                 have u0:=hn2.cell 0;have u1:=hn2.cell 1;have u2:=hn2.cell 2;have u3:=hn2.cell 3;have u4:=hn2.cell 4;have u5:=hn2.cell 5;simp only[List.getElem?_toArray,List.getElem?_cons_zero,List.getElem?_cons_succ]at u0 u1 u2 u3 u4 u5
                 have v0:=hn1.cell 0;have v1:=hn1.cell 1;have v2:=hn1.cell 2;have v3:=hn1.cell 3;have v4:=hn1.cell 4;have v5:=hn1.cell 5;simp only[List.getElem?_toArray,List.getElem?_cons_zero,List.getElem?_cons_succ]at v0 v1 v2 v3 v4 v5
                 have vf0:=hn1.frozen 0;have vf1:=hn1.frozen 1;have vf2:=hn1.frozen 2;have vf3:=hn1.frozen 3;have vf4:=hn1.frozen 4;have vf5:=hn1.frozen 5
                 clear hn1 hn2 hw0
                 go_wp2_with fail
                 refine bodyPost_ret (v:= .tuple #[.agg #[.slice none 0 0, .slice none 0 0, .slice none 0 0, .slice none 0 0, .slice none 0 0, .slice none 0 0], .int .i64 er]) ?_ rfl ?_
                 ·have hx3:=(((((HN1.out.set 0 (.slice none 0 0)).set 1 (.slice none 0 0)).set 2 (.slice none 0 0)).set 3 (.slice none 0 0)).set 4 (.slice none 0 0)).set 5 (.slice none 0 0)
                  have e0:=hx3.cell 0
                  have e1:=hx3.cell 1
                  have e2:=hx3.cell 2
                  have e3:=hx3.cell 3
                  have e4:=hx3.cell 4
                  have e5:=hx3.cell 5
                  simp at e0 e1 e2 e3 e4 e5
                  simp[results,Tryz.results21,go_sem,e0,e1,e2,e3,e4,e5]
                 ·refine kdZ (HO.out.symm.trans HF.out) HNE.out ?_
                  repeat (first|((with_reducible refine fZ ?_ ?_);(focus (exact hwr1)))|(with_reducible refine Below.drew ?_))
                  first|(with_reducible exact HBF.out)|(with_reducible exact Below.drew HBF.out)|(with_reducible exact below_drewN HBF.out _)
              ·have gE:(cer != 0)=true:=by simpa using hcer
               have HF:Hid (O=cer):=by have h:=HOE2.out;rw[if_pos hcer,if_pos hcer]at h;exact h
               have HNE:=hid hcer
               have HBW:=HB22
               obtain⟨er,her⟩:∃er:Int,er=cer:=⟨_,rfl⟩
               subst her
               clear hcer HOE2 HX22 HOC22 HOF22 HOT22 HOL22
               have hn2:=HZ2.out.below HBW.out hr2
               have hn1:=HZ1.out.below HBW.out hr1
               have hw0:=HW3.out.trans (HBW.out.mono hzw3)
               have HBF:=hid hw0
               have HN1:=hid hn1
               have u0:=hn2.cell 0;have u1:=hn2.cell 1;have u2:=hn2.cell 2;have u3:=hn2.cell 3;have u4:=hn2.cell 4;have u5:=hn2.cell 5;simp only[List.getElem?_toArray,List.getElem?_cons_zero,List.getElem?_cons_succ]at u0 u1 u2 u3 u4 u5
               have v0:=hn1.cell 0;have v1:=hn1.cell 1;have v2:=hn1.cell 2;have v3:=hn1.cell 3;have v4:=hn1.cell 4;have v5:=hn1.cell 5;simp only[List.getElem?_toArray,List.getElem?_cons_zero,List.getElem?_cons_succ]at v0 v1 v2 v3 v4 v5
               have vf0:=hn1.frozen 0;have vf1:=hn1.frozen 1;have vf2:=hn1.frozen 2;have vf3:=hn1.frozen 3;have vf4:=hn1.frozen 4;have vf5:=hn1.frozen 5
               clear hn1 hn2 hw0
               go_wp2_with fail
               refine bodyPost_ret (v:= .tuple #[.agg #[.slice none 0 0, .slice none 0 0, .slice none 0 0, .slice none 0 0, .slice none 0 0, .slice none 0 0], .int .i64 er]) ?_ rfl ?_
               ·have hx3:=(((((HN1.out.set 0 (.slice none 0 0)).set 1 (.slice none 0 0)).set 2 (.slice none 0 0)).set 3 (.slice none 0 0)).set 4 (.slice none 0 0)).set 5 (.slice none 0 0)
                have e0:=hx3.cell 0
                have e1:=hx3.cell 1
                have e2:=hx3.cell 2
                have e3:=hx3.cell 3
                have e4:=hx3.cell 4
                have e5:=hx3.cell 5
                simp at e0 e1 e2 e3 e4 e5
                simp[results,Tryz.results21,go_sem,e0,e1,e2,e3,e4,e5]
               ·refine kdZ (HO.out.symm.trans HF.out) HNE.out ?_
                repeat (first|((with_reducible refine fZ ?_ ?_);(focus (exact hwr1)))|(with_reducible refine Below.drew ?_))
                first|(with_reducible exact HBF.out)|(with_reducible exact Below.drew HBF.out)|(with_reducible exact below_drewN HBF.out _)
             ·have gE:(ce != 0)=true:=by simpa using hce
              have HF:Hid (O=ce):=by have h:=HOE.out;rw[if_pos hce,if_pos hce]at h;exact h
              have HNE:=hid hce
              have HBW:=HB20
              obtain⟨er,her⟩:∃er:Int,er=ce:=⟨_,rfl⟩
              subst her
              clear hce HOE HX20 HOC20 HOF20 HO20 HHR
              have hn2:=HZ2.out.below HBW.out hr2
              have hn1:=HZ1.out.below HBW.out hr1
              have hw0:=HW3.out.trans (HBW.out.mono hzw3)
              have HBF:=hid hw0
              have HN1:=hid hn1
              have u0:=hn2.cell 0;have u1:=hn2.cell 1;have u2:=hn2.cell 2;have u3:=hn2.cell 3;have u4:=hn2.cell 4;have u5:=hn2.cell 5;simp only[List.getElem?_toArray,List.getElem?_cons_zero,List.getElem?_cons_succ]at u0 u1 u2 u3 u4 u5
              have v0:=hn1.cell 0;have v1:=hn1.cell 1;have v2:=hn1.cell 2;have v3:=hn1.cell 3;have v4:=hn1.cell 4;have v5:=hn1.cell 5;simp only[List.getElem?_toArray,List.getElem?_cons_zero,List.getElem?_cons_succ]at v0 v1 v2 v3 v4 v5
              have vf0:=hn1.frozen 0;have vf1:=hn1.frozen 1;have vf2:=hn1.frozen 2;have vf3:=hn1.frozen 3;have vf4:=hn1.frozen 4;have vf5:=hn1.frozen 5
              clear hn1 hn2 hw0
              go_wp2_with fail
              refine bodyPost_ret (v:= .tuple #[.agg #[.slice none 0 0, .slice none 0 0, .slice none 0 0, .slice none 0 0, .slice none 0 0, .slice none 0 0], .int .i64 er]) ?_ rfl ?_
              ·have hx3:=(((((HN1.out.set 0 (.slice none 0 0)).set 1 (.slice none 0 0)).set 2 (.slice none 0 0)).set 3 (.slice none 0 0)).set 4 (.slice none 0 0)).set 5 (.slice none 0 0)
               have e0:=hx3.cell 0
               have e1:=hx3.cell 1
               have e2:=hx3.cell 2
               have e3:=hx3.cell 3
               have e4:=hx3.cell 4
               have e5:=hx3.cell 5
               simp at e0 e1 e2 e3 e4 e5
               simp[results,Tryz.results21,go_sem,e0,e1,e2,e3,e4,e5]
              ·refine kdZ (HO.out.symm.trans HF.out) HNE.out ?_
               repeat (first|((with_reducible refine fZ ?_ ?_);(focus (exact hwr1)))|(with_reducible refine Below.drew ?_))
               first|(with_reducible exact HBF.out)|(with_reducible exact Below.drew HBF.out)|(with_reducible exact below_drewN HBF.out _)
          ·have g3:(((tt+P+Q:Nat):Int) != (r:Int))=true:=by rw[bne_iff_ne];omega
           have HF:Hid (O=2):=hBad (.inr (.inr h3))
           have HNE:Hid ((2:Int)≠0):=show(2:Int)≠0 by decide
           have HBW:=hid HI16.out.bel
           obtain⟨TT,hTT⟩:∃TT,TT=tt+P+Q:=⟨_,rfl⟩
           rw[<-hTT]at t2 t2' g3
           clear hz h2 h3 hTT HR2 HI16 hBad hGood
           have hn2:=HZ2.out.below HBW.out hr2
           have hn1:=HZ1.out.below HBW.out hr1
           have hw0:=HW3.out.trans (HBW.out.mono hzw3)
           have HBF:=hid hw0
           have HN1:=hid hn1
           have u0:=hn2.cell 0;have u1:=hn2.cell 1;have u2:=hn2.cell 2;have u3:=hn2.cell 3;have u4:=hn2.cell 4;have u5:=hn2.cell 5;simp only[List.getElem?_toArray,List.getElem?_cons_zero,List.getElem?_cons_succ]at u0 u1 u2 u3 u4 u5
           have v0:=hn1.cell 0;have v1:=hn1.cell 1;have v2:=hn1.cell 2;have v3:=hn1.cell 3;have v4:=hn1.cell 4;have v5:=hn1.cell 5;simp only[List.getElem?_toArray,List.getElem?_cons_zero,List.getElem?_cons_succ]at v0 v1 v2 v3 v4 v5
           have vf0:=hn1.frozen 0;have vf1:=hn1.frozen 1;have vf2:=hn1.frozen 2;have vf3:=hn1.frozen 3;have vf4:=hn1.frozen 4;have vf5:=hn1.frozen 5
           clear hn1 hn2 hw0
           go_wp2_with fail
           refine bodyPost_ret (v:= .tuple #[.agg #[.slice none 0 0, .slice none 0 0, .slice none 0 0, .slice none 0 0, .slice none 0 0, .slice none 0 0], .int .i64 2]) ?_ rfl ?_
           ·have hx3:=(((((HN1.out.set 0 (.slice none 0 0)).set 1 (.slice none 0 0)).set 2 (.slice none 0 0)).set 3 (.slice none 0 0)).set 4 (.slice none 0 0)).set 5 (.slice none 0 0)
            have e0:=hx3.cell 0
            have e1:=hx3.cell 1
            have e2:=hx3.cell 2
            have e3:=hx3.cell 3
            have e4:=hx3.cell 4
            have e5:=hx3.cell 5
            simp at e0 e1 e2 e3 e4 e5
            simp[results,Tryz.results21,go_sem,e0,e1,e2,e3,e4,e5]
           ·refine kdZ (HO.out.symm.trans HF.out) HNE.out ?_
            repeat (first|((with_reducible refine fZ ?_ ?_);(focus (exact hwr1)))|(with_reducible refine Below.drew ?_))
            first|(with_reducible exact HBF.out)|(with_reducible exact Below.drew HBF.out)|(with_reducible exact below_drewN HBF.out _)
         ·have gn:((hh:Int) != (rec:Int))=true:=by rw[bne_iff_ne];omega
          have HF:Hid (O=2):=hBad (.inr (.inl h2))
          have HNE:Hid ((2:Int)≠0):=show(2:Int)≠0 by decide
          have HBW:=hid HI16.out.bel
          clear hz h2 HR2 HI16 hBad hGood
          have hn2:=HZ2.out.below HBW.out hr2
          have hn1:=HZ1.out.below HBW.out hr1
          have hw0:=HW3.out.trans (HBW.out.mono hzw3)
          have HBF:=hid hw0
          have HN1:=hid hn1
          have u0:=hn2.cell 0;have u1:=hn2.cell 1;have u2:=hn2.cell 2;have u3:=hn2.cell 3;have u4:=hn2.cell 4;have u5:=hn2.cell 5;simp only[List.getElem?_toArray,List.getElem?_cons_zero,List.getElem?_cons_succ]at u0 u1 u2 u3 u4 u5
          have v0:=hn1.cell 0;have v1:=hn1.cell 1;have v2:=hn1.cell 2;have v3:=hn1.cell 3;have v4:=hn1.cell 4;have v5:=hn1.cell 5;simp only[List.getElem?_toArray,List.getElem?_cons_zero,List.getElem?_cons_succ]at v0 v1 v2 v3 v4 v5
          have vf0:=hn1.frozen 0;have vf1:=hn1.frozen 1;have vf2:=hn1.frozen 2;have vf3:=hn1.frozen 3;have vf4:=hn1.frozen 4;have vf5:=hn1.frozen 5
          clear hn1 hn2 hw0
          go_wp2_with fail
          refine bodyPost_ret (v:= .tuple #[.agg #[.slice none 0 0, .slice none 0 0, .slice none 0 0, .slice none 0 0, .slice none 0 0, .slice none 0 0], .int .i64 2]) ?_ rfl ?_
          ·have hx3:=(((((HN1.out.set 0 (.slice none 0 0)).set 1 (.slice none 0 0)).set 2 (.slice none 0 0)).set 3 (.slice none 0 0)).set 4 (.slice none 0 0)).set 5 (.slice none 0 0)
           have e0:=hx3.cell 0
           have e1:=hx3.cell 1
           have e2:=hx3.cell 2
           have e3:=hx3.cell 3
           have e4:=hx3.cell 4
           have e5:=hx3.cell 5
           simp at e0 e1 e2 e3 e4 e5
           simp[results,Tryz.results21,go_sem,e0,e1,e2,e3,e4,e5]
          ·refine kdZ (HO.out.symm.trans HF.out) HNE.out ?_
           repeat (first|((with_reducible refine fZ ?_ ?_);(focus (exact hwr1)))|(with_reducible refine Below.drew ?_))
           first|(with_reducible exact HBF.out)|(with_reducible exact Below.drew HBF.out)|(with_reducible exact below_drewN HBF.out _)
       ·have gE:(E != 0)=true:=by simpa using hE
        have HF:Hid (O=E):=by have h:=HR2.out;rw[if_pos hE,if_pos hE]at h;exact h
        have HNE:=hid hE
        have HBW:=hid HI16.out.bel
        obtain⟨er,her⟩:∃er:Int,er=E:=⟨_,rfl⟩
        subst her
        clear hE HR2 HI16
        have hn2:=HZ2.out.below HBW.out hr2
        have hn1:=HZ1.out.below HBW.out hr1
        have hw0:=HW3.out.trans (HBW.out.mono hzw3)
        have HBF:=hid hw0
        have HN1:=hid hn1
        have u0:=hn2.cell 0;have u1:=hn2.cell 1;have u2:=hn2.cell 2;have u3:=hn2.cell 3;have u4:=hn2.cell 4;have u5:=hn2.cell 5;simp only[List.getElem?_toArray,List.getElem?_cons_zero,List.getElem?_cons_succ]at u0 u1 u2 u3 u4 u5
        have v0:=hn1.cell 0;have v1:=hn1.cell 1;have v2:=hn1.cell 2;have v3:=hn1.cell 3;have v4:=hn1.cell 4;have v5:=hn1.cell 5;simp only[List.getElem?_toArray,List.getElem?_cons_zero,List.getElem?_cons_succ]at v0 v1 v2 v3 v4 v5
        have vf0:=hn1.frozen 0;have vf1:=hn1.frozen 1;have vf2:=hn1.frozen 2;have vf3:=hn1.frozen 3;have vf4:=hn1.frozen 4;have vf5:=hn1.frozen 5
        clear hn1 hn2 hw0
        go_wp2_with fail
        go_region
        all_goals go_wp2_with fail
        refine bodyPost_ret (v:= .tuple #[.agg #[.slice none 0 0, .slice none 0 0, .slice none 0 0, .slice none 0 0, .slice none 0 0, .slice none 0 0], .int .i64 er]) ?_ rfl ?_
        ·have hx3:=(((((HN1.out.set 0 (.slice none 0 0)).set 1 (.slice none 0 0)).set 2 (.slice none 0 0)).set 3 (.slice none 0 0)).set 4 (.slice none 0 0)).set 5 (.slice none 0 0)
         have e0:=hx3.cell 0
         have e1:=hx3.cell 1
         have e2:=hx3.cell 2
         have e3:=hx3.cell 3
         have e4:=hx3.cell 4
         have e5:=hx3.cell 5
         simp at e0 e1 e2 e3 e4 e5
         simp[results,Tryz.results21,go_sem,e0,e1,e2,e3,e4,e5]
        ·refine kdZ (HO.out.symm.trans HF.out) HNE.out ?_
         repeat (first|((with_reducible refine fZ ?_ ?_);(focus (exact hwr1)))|(with_reducible refine Below.drew ?_))
         first|(with_reducible exact HBF.out)|(with_reducible exact Below.drew HBF.out)|(with_reducible exact below_drewN HBF.out _)
    ·have gE:(ce != 0)=true:=by simpa using hce
     have HF:Hid (O=ce):=by have h:=HOG.out;rw[if_pos hce]at h;exact h
     have HNE:=hid hce
     have HBW:=HB7
     obtain⟨er,her⟩:∃er:Int,er=ce:=⟨_,rfl⟩
     subst her
     clear hce HOG HO7
     have hn2:=HZ2.out.below HBW.out hr2
     have hn1:=HZ1.out.below HBW.out hr1
     have hw0:=HW3.out.trans (HBW.out.mono hzw3)
     have HBF:=hid hw0
     have HN1:=hid hn1
     have u0:=hn2.cell 0;have u1:=hn2.cell 1;have u2:=hn2.cell 2;have u3:=hn2.cell 3;have u4:=hn2.cell 4;have u5:=hn2.cell 5;simp only[List.getElem?_toArray,List.getElem?_cons_zero,List.getElem?_cons_succ]at u0 u1 u2 u3 u4 u5
     have v0:=hn1.cell 0;have v1:=hn1.cell 1;have v2:=hn1.cell 2;have v3:=hn1.cell 3;have v4:=hn1.cell 4;have v5:=hn1.cell 5;simp only[List.getElem?_toArray,List.getElem?_cons_zero,List.getElem?_cons_succ]at v0 v1 v2 v3 v4 v5
     have vf0:=hn1.frozen 0;have vf1:=hn1.frozen 1;have vf2:=hn1.frozen 2;have vf3:=hn1.frozen 3;have vf4:=hn1.frozen 4;have vf5:=hn1.frozen 5
     clear hn1 hn2 hw0
     go_wp2_with fail
     refine bodyPost_ret (v:= .tuple #[.agg #[.slice none 0 0, .slice none 0 0, .slice none 0 0, .slice none 0 0, .slice none 0 0, .slice none 0 0], .int .i64 er]) ?_ rfl ?_
     ·have hx3:=(((((HN1.out.set 0 (.slice none 0 0)).set 1 (.slice none 0 0)).set 2 (.slice none 0 0)).set 3 (.slice none 0 0)).set 4 (.slice none 0 0)).set 5 (.slice none 0 0)
      have e0:=hx3.cell 0
      have e1:=hx3.cell 1
      have e2:=hx3.cell 2
      have e3:=hx3.cell 3
      have e4:=hx3.cell 4
      have e5:=hx3.cell 5
      simp at e0 e1 e2 e3 e4 e5
      simp[results,Tryz.results21,go_sem,e0,e1,e2,e3,e4,e5]
     ·refine kdZ (HO.out.symm.trans HF.out) HNE.out ?_
      repeat (first|((with_reducible refine fZ ?_ ?_);(focus (exact hwr1)))|(with_reducible refine Below.drew ?_))
      first|(with_reducible exact HBF.out)|(with_reducible exact Below.drew HBF.out)|(with_reducible exact below_drewN HBF.out _)
 ·have gE:(oe != 0)=true:=by simpa using hoe
  have HF:Hid (O=9):=by have h:=HOE.out;rw[if_pos hoe]at h;rw[h];exact HO9.out hoe
  have HNE:Hid ((9:Int)≠0):=show(9:Int)≠0 by decide
  have HBW:=HB4
  clear hoe HOE HBU HO9
  have hn2:=HZ2.out.below HBW.out hr2
  have hn1:=HZ1.out.below HBW.out hr1
  have hw0:=HW3.out.trans (HBW.out.mono hzw3)
  have HBF:=hid hw0
  have HN1:=hid hn1
  have u0:=hn2.cell 0;have u1:=hn2.cell 1;have u2:=hn2.cell 2;have u3:=hn2.cell 3;have u4:=hn2.cell 4;have u5:=hn2.cell 5;simp only[List.getElem?_toArray,List.getElem?_cons_zero,List.getElem?_cons_succ]at u0 u1 u2 u3 u4 u5
  have v0:=hn1.cell 0;have v1:=hn1.cell 1;have v2:=hn1.cell 2;have v3:=hn1.cell 3;have v4:=hn1.cell 4;have v5:=hn1.cell 5;simp only[List.getElem?_toArray,List.getElem?_cons_zero,List.getElem?_cons_succ]at v0 v1 v2 v3 v4 v5
  have vf0:=hn1.frozen 0;have vf1:=hn1.frozen 1;have vf2:=hn1.frozen 2;have vf3:=hn1.frozen 3;have vf4:=hn1.frozen 4;have vf5:=hn1.frozen 5
  clear hn1 hn2 hw0
  go_wp2_with fail
  refine bodyPost_ret (v:= .tuple #[.agg #[.slice none 0 0, .slice none 0 0, .slice none 0 0, .slice none 0 0, .slice none 0 0, .slice none 0 0], .int .i64 9]) ?_ rfl ?_
  ·have hx3:=(((((HN1.out.set 0 (.slice none 0 0)).set 1 (.slice none 0 0)).set 2 (.slice none 0 0)).set 3 (.slice none 0 0)).set 4 (.slice none 0 0)).set 5 (.slice none 0 0)
   have e0:=hx3.cell 0
   have e1:=hx3.cell 1
   have e2:=hx3.cell 2
   have e3:=hx3.cell 3
   have e4:=hx3.cell 4
   have e5:=hx3.cell 5
   simp at e0 e1 e2 e3 e4 e5
   simp[results,Tryz.results21,go_sem,e0,e1,e2,e3,e4,e5]
  ·refine kdZ (HO.out.symm.trans HF.out) HNE.out ?_
   repeat (first|((with_reducible refine fZ ?_ ?_);(focus (exact hwr1)))|(with_reducible refine Below.drew ?_))
   first|(with_reducible exact HBF.out)|(with_reducible exact Below.drew HBF.out)|(with_reducible exact below_drewN HBF.out _)
end Go.Proofs.YtbgoibedicbkjaaGreatDoor.Body
namespace Go.Proofs.YtbgoibedicbkjaaGreatDoor.Idx
open Go.RowKit Mem Own Canon Sift
open NumPut Recs Go.Proofs.YtbgoibedicbkjaaGreatDoor Crc Block
open Ef Nums
def xnZ(w:World)(ts:List Str)(ls:List (List Nat))(e:Ending)(w':World):Prop:=
 ∃vT vL vals,e= .returned (.agg #[vT,vL])/\IxAt w' w.heap.size vT vL vals ts ls/\Below w.heap.size w w'
theorem nmZ(w:World)(gb base:Nat)(vT vL:Value)(vals:List Value)(ts:List Str)(ls:List (List Nat))(c6:w.cell? ⟨gb,6,none⟩=some vT)(c7:w.cell? ⟨gb,7,none⟩=some vL)(h:IxAt w base vT vL vals ts ls)(hts:ts.length<=1100000)(hls:ls.length<=1100000)(hll:∀l∈ls,l.length<=1100000)(hgb:gb<w.heap.size):
 Calls Tryz.prog 14 #[.pointer (some ⟨gb,0,none⟩)] w (xnZ w ts ls):=by
 obtain⟨j0,hj0,hy0,hy1,hy2⟩:=info_parts ypZ
 have t1:=h.t
 have l1:=h.l
 obtain⟨n,hn⟩:∃n,n=ts.length:=⟨_,rfl⟩
 obtain⟨m,hm⟩:∃m,m=ls.length:=⟨_,rfl⟩
 rw[<-hn]at t1 hts
 rw[<-hm]at l1 hls
 obtain⟨A1,c1,rfl⟩:=bZ t1
 obtain⟨B1,d1,rfl⟩:=bZ l1
 have DT:=hid (fun wx (hb:Below w.heap.size w wx)=>stZ wx base A1 n c1 (ccZ ts) (by omega) (eZ t1 (fun y hy=>hb.block y (World.ownsRow.lt t1 y hy).2)) (quZ ts))
 have HV:Hid (∀i,i<m->∃C1 k1 e1 ids,vals[i]? =some (.slice C1 k1 e1)/\ls[i]? =some ids/\ids.length=k1/\k1<=1100000):=fun i hi=>by
  have hv1:=h.len
  obtain⟨ids,gi⟩:∃ids,ls[i]? =some ids:=⟨_,List.getElem?_eq_getElem (by omega)⟩
  obtain⟨x1,g1⟩:∃x,vals[i]? =some x:=⟨_,List.getElem?_eq_getElem (by omega)⟩
  obtain⟨C1,e1,rfl⟩:=bZ (h.r i _ ids g1 gi)
  exact⟨C1,_,e1,ids,g1,gi,rfl,hll ids (List.mem_of_getElem? gi)⟩
 have HIX:=hid h
 have HL1:=hid l1
 have HNT:=hid hn
 have HML:=hid hm
 unfold xnZ
 clear h t1 hn hm hll
 go_enter Tryz.func14,Tryz.ntmps14
 go_wp2_with fail
 have hb1:Below w.heap.size w (w.alloc (.cells #[.slice none 0 0, .slice none 0 0] 36)):=aZ (Below.refl _ _)
 have hx1:Blk (w.alloc (.cells #[.slice none 0 0, .slice none 0 0] 36)) w.heap.size 36 #[.slice none 0 0, .slice none 0 0]:=Blk.made _ _ _
 have hz1:w.heap.size+1<=(w.alloc (.cells #[.slice none 0 0, .slice none 0 0] 36)).heap.size:=by simp
 generalize w.alloc (.cells #[.slice none 0 0, .slice none 0 0] 36)=w1 at *
 have D1:=hid (DT.out _ hb1)
 have HB1:=hid hb1
 have HX1:=hid hx1
 clear hb1 hx1 DT
 refine D1.out.mono ?_
 rintro e w2 ⟨v,rfl,ho,hb2⟩
 have HB2:Hid (Below w.heap.size w w2):=HB1.out.trans (hb2.mono (by omega))
 have HX2:=hid (HX1.out.step hb2)
 have HOT:=hid ho
 have z2:=hb2.size
 obtain⟨A2,c2,rfl⟩:=bZ ho
 have c7:w2.cell? ⟨gb,7,none⟩=some (.slice B1 m d1):=(HB2.out.cell (p:=⟨gb,7,none⟩) hgb).trans c7
 have hgb2:gb<w2.heap.size:=by have:=HB2.out.size;omega
 clear ho hb2 D1 HB1 HX1 c6
 go_wp2_with fail
 have hb3:Below w2.heap.size w2 (w2.alloc (.cells #[.slice A2 n c2, .slice none 0 0] 36)):=aZ (Below.refl _ _)
 have HI3:Hid (RIx w (w2.alloc (.cells #[.slice A2 n c2, .slice none 0 0] 36)) w2.heap.size (.slice A2 n c2) ts none 0 0 [] []):=⟨Blk.made _ _ _,HX2.out.step hb3,LsAt.nil _ _,lZ (by have h:=(HOT.out).alloc (.cells #[.slice A2 n c2, .slice none 0 0] 36);rw[HNT.out]at h ⊢;exact h) (by omega),HB2.out.trans (hb3.mono (by omega)),by omega⟩
 generalize hgx:w2.heap.size=gx at *
 generalize w2.alloc (.cells #[.slice A2 n c2, .slice none 0 0] 36)=w3 at *
 have hgw:w.heap.size<gx:=by omega
 have c7:w3.cell? ⟨gb,7,none⟩=some (.slice B1 m d1):=(hb3.cell (p:=⟨gb,7,none⟩) (by show gb<gx;omega)).trans c7
 clear hb3 HX2 HOT HB2 hgx z2
 go_loopw [22] (fun iv wr=>∃ (k cv:Nat) (Av:Option Addr) (vs:List Value),k<=m/\iv= .int .i64 k/\Hid (RIx w wr gx (.slice A2 n c2) ts Av k cv vs (ls.take k))) (fun iv _=>m-(intOf iv).toNat)
 case atStart=>exact⟨0,0,none,[],by omega,by first|rfl|go_num,HI3.out⟩
 case round=>
  obtain⟨k,cv,Av,vs,hk,rfl,HI⟩:=hrel
  clear HI3 c7
  have zr:=HI.out.bel.size
  by_cases hkm:k<m
  ·have gk:decide ((k:Int)<(m:Int))=true:=by simp;omega
   have gk':decide (k<m)=true:=by simp;omega
   obtain⟨C1,k1,e1,ids,hv,hi,hl,hk1⟩:=HV.out k hkm
   have hLr:wr.ownsRow base 30 1 (.slice B1 m d1) m vals:=eZ HL1.out (fun y hy=>HI.out.bel.block y (World.ownsRow.lt HL1.out y hy).2)
   obtain⟨gv,cv2,hAv,hgv,_⟩:=hLr.form (by omega)
   injection hAv with q1 q2 q3
   subst q1 q3
   clear q2
   have ck:wr.cell? ⟨gv,k,none⟩=some (.slice C1 k1 e1):=by rw[hLr.cellAt k (by omega)];exact hv
   have x10:(0:Int)<=(k:Int):=by omega
   have x11:(k:Int)<(m:Int):=by omega
   have HOI:Hid (wr.ownsRow base 3 1 (.slice C1 k1 e1) k1 (cZ .i64 ids)):=by
    have h:=HIX.out.r k _ ids hv hi
    rw[hl]at h
    exact eZ h (fun y hy=>HI.out.bel.block y (World.ownsRow.lt h y hy).2)
   have DC:=hid (fun wx (hb:Below wr.heap.size wr wx)=>rtZ wx base C1 k1 e1 (cZ .i64 ids) (by omega) (eZ HOI.out (fun y hy=>hb.block y (World.ownsRow.lt HOI.out y hy).2)) (wZ _ _))
   have HTK:Hid (ls.take (k+1)=ls.take k++ [ids]):=by show _=_;rw[List.take_add_one,hi];rfl
   have HIL:=hid hl
   have q1:=HI.out.bx.cell 1
   simp only[List.getElem?_toArray,List.getElem?_cons_zero,List.getElem?_cons_succ]at q1
   have HLK:Hid ((ls.take k).length=k):=by show _=_;rw[List.length_take,<-HML.out];omega
   have HOL:Hid (wr.ownsRow w.heap.size 30 1 (.slice Av k cv) k vs):=by have h:=HI.out.ls.l;rw[HLK.out]at h;exact h
   clear hLr hv hi hl
   go_upto_region 7 with fail
   go_region_law(first|(go_simp;go_at_call 44;(with_reducible refine(DC.out _ (by(repeat(first|(with_reducible first|exact Below.refl _ _|assumption|refine Below.drew ?_|refine below_drewN ?_ _|refine aZ ?_|refine dZ (by assumption) ?_)|((with_reducible first|refine fZ ?_ ?_|refine gZ ?_ ?_|refine iZ (by assumption) ?_ ?_);(focus(first|(simp;done)|(simp;omega)|omega|(simp at *;omega)))))))).mono ?_);rintro e w4 ⟨v4,rfl,ho4,hb4⟩;obtain⟨A4,c4,rfl⟩:=bZ ho4;have hb44:Below wr.heap.size wr w4:=dZ hb4 (by(repeat(first|(with_reducible first|exact Below.refl _ _|assumption|refine Below.drew ?_|refine below_drewN ?_ _|refine aZ ?_|refine dZ (by assumption) ?_)|((with_reducible first|refine fZ ?_ ?_|refine gZ ?_ ?_|refine iZ (by assumption) ?_ ?_);(focus(first|(simp;done)|(simp;omega)|omega|(simp at *;omega)))))));have hi4:=HI.out.step hb44;have p1:=hi4.bx.cell 1;have HO4:Hid (w4.ownsRow w.heap.size 30 1 (.slice Av k cv) k vs):=eZ HOL.out (fun y hy=>hb44.block y (World.ownsRow.lt HOL.out y hy).2);have z44:=hb44.size;have p9:=(hi4.bx.alloc (.cells #[.slice A4 k1 c4] 30)).cell 1;simp only[List.getElem?_toArray,List.getElem?_cons_zero,List.getElem?_cons_succ]at p1 p9)|(refine Body.mkZ rfl (.tmp 27) (.tmp 30) 34 rfl w.heap.size 30 j0 _ 1 24 Tryz.underlying34 hj0 hy0 hy1 hy2 rfl (by decide) (.slice Av k cv) k vs (by rfl) (by first|exact HO4.out.alloc _|exact(HO4.out.alloc _).drew) _ 1 1 [.slice A4 k1 c4] (by rfl) (Src.of_blk (Blk.made_at _ _ _ (by simp)) 1 1 1 rfl) (by intro u hu;simp at hu;rcases hu with rfl;rfl) (by unfold maxLen;omega) (by omega) (by simp;omega) ?_;intro A5 c5 w5 hown5 hg5 hat5;have b5:=(hi4.bx.alloc (.cells #[.slice A4 k1 c4] 30)).grown hg5 (Ne.symm (jZ HO4.out hi4.bx (by decide)));have r1:=b5.cell 1;have s1:=b5.frozen 1;simp only[List.getElem?_toArray,List.getElem?_cons_zero,List.getElem?_cons_succ]at r1))
   all_goals
    have hi5:=hi4.step (aZ (o:= .cells #[.slice A4 k1 c4] 30) (Below.refl w4.heap.size w4))
    have hu5:(w4.alloc (.cells #[.slice A4 k1 c4] 30)).ownsRow w.heap.size 3 1 (.slice A4 k1 c4) ids.length (cZ .i64 ids):=by rw[HIL.out];exact lZ (ho4.alloc _) (by simpa using zr)
    have HI7:Hid (RIx w (w5.setCell ⟨gx,1,none⟩ (.slice A5 (k+1) c5)) gx (.slice A2 n c2) ts A5 (k+1) c5 (vs++ [.slice A4 k1 c4]) (ls.take (k+1))):=by
     show RIx _ _ _ _ _ _ _ _ _ _
     rw[HTK.out]
     exact hi5.add hu5 HLK.out hg5 hown5
    clear hi5 hu5 hown5 hg5 hat5 b5 r1 s1 p1 p9 ho4 hb4 hb44 HO4 HI DC HOL hi4 ck q1
    generalize w5.setCell ⟨gx,1,none⟩ (.slice A5 (k+1) c5)=w6 at *
    go_wp2_with fail
    go_roundw
    case measure=>go_light;simp[intOf];omega
    case rel=>go_light;exact⟨k+1,c5,A5,vs++ [Value.slice A4 k1 c4],by omega,by first|rfl|go_num,HI7.out⟩
  ·obtain rfl:k=m:=by omega
   have gk:decide ((k:Int)<(k:Int))=false:=by simp
   have k0:=HI.out.br.cell 0
   have k1:=HI.out.br.cell 1
   have f0:=HI.out.br.frozen 0
   have f1:=HI.out.br.frozen 1
   have q0:=HI.out.bx.cell 0
   have q1:=HI.out.bx.cell 1
   simp only[List.getElem?_toArray,List.getElem?_cons_zero,List.getElem?_cons_succ]at k0 k1 q0 q1
   have HTL:Hid (ls.take k=ls):=List.take_of_length_le (by rw[HML.out];exact Nat.le_refl _)
   go_wp2_with fail
   refine bodyPost_ret (v:= .agg #[.slice A2 n c2, .slice Av k cv]) ?_ rfl ⟨_,_,vs,rfl,?_,?_⟩
   ·have hx3:=(HI.out.br.set 0 (.slice A2 n c2)).set 1 (.slice Av k cv)
    have e0:=hx3.cell 0
    have e1:=hx3.cell 1
    simp at e0 e1
    simp[results,Tryz.results14,go_sem,e0,e1]
   ·have hix:IxAt wr w.heap.size (.slice A2 n c2) (.slice Av k cv) vs ts ls:=⟨HI.out.ot,by have h:=HI.out.ls.l;rw[HTL.out]at h;exact h,by have h:=HI.out.ls.r;rw[HTL.out]at h;exact h⟩
    exact(hix.set HI.out.br 0 _).set (HI.out.br.set 0 _) 1 _
   ·exact fZ (Nat.le_refl _) (fZ (Nat.le_refl _) HI.out.bel)
end Go.Proofs.YtbgoibedicbkjaaGreatDoor.Idx
namespace Go.Proofs.YtbgoibedicbkjaaGreatDoor.Idx
open Go.RowKit Mem Own Canon Sift
open NumPut Recs Go.Proofs.YtbgoibedicbkjaaGreatDoor
open Go.Proofs.YtbgoibedicbkjaaGreatDoor.Open
open Go.Proofs.YtbgoibedicbkjaaGreatDoor.Huff (qhZ)
theorem own_ints{w:World}{base n c:Nat}{A:Option Addr}{ids:List Nat}(h:w.ownsRow base 3 1 (.slice A n c) n (cZ .i64 ids))(hn:ids.length=n):Row w w.heap.size A n 1 (ukZ .i64 (ids.map Int.ofNat)):=
 Row.of_own h rfl fun i j hi hj=>by
  obtain rfl:j=0:=by omega
  unfold cZ
  rw[Nat.mul_one,Nat.add_zero,List.getElem?_map,List.getElem?_eq_getElem (by omega)]
  unfold ukZ
  rw[List.getD_eq_getElem?_getD,List.getElem?_map,List.getElem?_eq_getElem (by omega)]
  rfl
theorem omZ(w:World)(p1 p2:Nat)(vT vL vT2 vL2:Value)(vals vals2:List Value)(ts:List Str)(ls:List (List Nat))(h1:IxAt w p1 vT vL vals ts ls)(h2:IxAt w p2 vT2 vL2 vals2 ts ls)(hts:ts.length<=2000000)(hls:ls.length<=2000000)(hll:∀l∈ls,l.length<=2000000):
 Calls Tryz.prog 13 #[.agg #[vT,vL], .agg #[vT2,vL2]] w fun e w'=>e= .returned (.bool true)/\Below w.heap.size w w':=by
 have t1:=h1.t
 have t2:=h2.t
 have l1:=h1.l
 have l2:=h2.l
 obtain⟨n,hn⟩:∃n,n=ts.length:=⟨_,rfl⟩
 obtain⟨m,hm⟩:∃m,m=ls.length:=⟨_,rfl⟩
 rw[<-hn]at t1 t2 hts
 rw[<-hm]at l1 l2 hls
 obtain⟨A1,c1,rfl⟩:=bZ t1
 obtain⟨A2,c2,rfl⟩:=bZ t2
 obtain⟨B1,d1,rfl⟩:=bZ l1
 obtain⟨B2,d2,rfl⟩:=bZ l2
 have DS:=hid (fun wx (hb:Below w.heap.size w wx)=>eoZ wx A1 A2 n n c1 c2 ts ts hn.symm hn.symm (by omega) (((gpZ t1).below hb).mono hb.size) (((gpZ t2).below hb).mono hb.size))
 have hv1:=h1.len
 have hv2:=h2.len
 have DI:=hid (fun wx (hb:Below w.heap.size w wx) (i:Nat) (C1:Option Addr) (k e1:Nat) (C2:Option Addr) (e2:Nat) (ids:List Nat) (g1:vals[i]? =some (.slice C1 k e1)) (g2:vals2[i]? =some (.slice C2 k e2)) (gi:ls[i]? =some ids) (q1:ids.length=k)=>qhZ wx C1 C2 k e1 e2 wx.heap.size wx.heap.size (ids.map Int.ofNat) (by rw[List.length_map];exact q1) (by have:=hll ids (List.mem_of_getElem? gi);omega) (((own_ints (base:=p1) (by have h:=h1.r i _ ids g1 gi;rw[q1]at h;exact h) q1).below hb).mono hb.size) (((own_ints (base:=p2) (by have h:=h2.r i _ ids g2 gi;rw[q1]at h;exact h) q1).below hb).mono hb.size))
 have HV:Hid (∀i,i<m->∃C1 k1 e1 C2 e2 ids,vals[i]? =some (.slice C1 k1 e1)/\vals2[i]? =some (.slice C2 k1 e2)/\ls[i]? =some ids/\ids.length=k1):=fun i hi=>by
  obtain⟨ids,gi⟩:∃ids,ls[i]? =some ids:=⟨_,List.getElem?_eq_getElem (by omega)⟩
  obtain⟨x1,g1⟩:∃x,vals[i]? =some x:=⟨_,List.getElem?_eq_getElem (by omega)⟩
  obtain⟨x2,g2⟩:∃x,vals2[i]? =some x:=⟨_,List.getElem?_eq_getElem (by omega)⟩
  obtain⟨C1,e1,rfl⟩:=bZ (h1.r i _ ids g1 gi)
  obtain⟨C2,e2,rfl⟩:=bZ (h2.r i _ ids g2 gi)
  exact⟨C1,_,e1,C2,e2,ids,g1,g2,gi,rfl⟩
 have HL1:=hid l1
 have HL2:=hid l2
 clear h1 h2 t1 t2 l1 l2 hn hm hll hv1 hv2
 go_enter Tryz.func13,Tryz.ntmps13
 go_wp2_with fail
 have bx1:Blk ((w.alloc (.cells #[.slice A1 n c1, .slice B1 m d1] 36)).alloc (.cells #[.slice A2 n c2, .slice B2 m d2] 36)) w.heap.size 36 #[.slice A1 n c1, .slice B1 m d1]:=(Blk.made _ _ _).alloc _
 have bx2:Blk ((w.alloc (.cells #[.slice A1 n c1, .slice B1 m d1] 36)).alloc (.cells #[.slice A2 n c2, .slice B2 m d2] 36)) (w.heap.size+1) 36 #[.slice A2 n c2, .slice B2 m d2]:=Blk.made_at _ _ _ (by simp)
 have hb2:Below w.heap.size w ((w.alloc (.cells #[.slice A1 n c1, .slice B1 m d1] 36)).alloc (.cells #[.slice A2 n c2, .slice B2 m d2] 36)):=by(repeat(first|(with_reducible first|exact Below.refl _ _|assumption|refine Below.drew ?_|refine below_drewN ?_ _|refine aZ ?_|refine dZ (by assumption) ?_)|((with_reducible first|refine fZ ?_ ?_|refine gZ ?_ ?_|refine iZ (by assumption) ?_ ?_);(focus(first|(simp;done)|(simp;omega)|omega|(simp at *;omega))))))
 generalize (w.alloc (.cells #[.slice A1 n c1, .slice B1 m d1] 36)).alloc (.cells #[.slice A2 n c2, .slice B2 m d2] 36)=w2 at *
 have BX1:=hid bx1
 have BX2:=hid bx2
 have HB2:=hid hb2
 clear bx1 bx2 hb2
 refine(DS.out w2 HB2.out).mono ?_
 rintro e w3 ⟨rfl,q0,hq0⟩
 have HB3:Hid (Below w.heap.size w w3):=by rw[hq0];exact below_drewN HB2.out q0
 have BY1:Hid (Blk w3 w.heap.size 36 #[.slice A1 n c1, .slice B1 m d1]):=by rw[hq0];exact BX1.out.drewN q0
 have BY2:Hid (Blk w3 (w.heap.size+1) 36 #[.slice A2 n c2, .slice B2 m d2]):=by rw[hq0];exact BX2.out.drewN q0
 have k1:=BY1.out.cell 1
 have k2:=BY2.out.cell 1
 simp only[List.getElem?_toArray,List.getElem?_cons_zero,List.getElem?_cons_succ]at k1 k2
 have gm:((m:Int) != (m:Int))=false:=by simp
 clear hq0 DS BX1 BX2 HB2
 go_wp2_with fail
 go_loopw [5] (fun iv wr=>∃i:Nat,i<=m/\iv= .int .i64 i/\Hid (∃q,wr=w3.drewN q)) (fun iv _=>m-(intOf iv).toNat)
 case atStart=>exact⟨0,by omega,rfl,0,rfl⟩
 case round=>
  obtain⟨i,hi,rfl,HQ⟩:=hrel
  clear k1 k2
  have HBr:Hid (Below w.heap.size w wr):=by obtain⟨q,hq⟩:=HQ.out;rw[hq];exact below_drewN HB3.out q
  have BZ1:Hid (Blk wr w.heap.size 36 #[.slice A1 n c1, .slice B1 m d1]):=by obtain⟨q,hq⟩:=HQ.out;rw[hq];exact BY1.out.drewN q
  have BZ2:Hid (Blk wr (w.heap.size+1) 36 #[.slice A2 n c2, .slice B2 m d2]):=by obtain⟨q,hq⟩:=HQ.out;rw[hq];exact BY2.out.drewN q
  have HQS:∀q2,Hid (∃q,wr.drewN q2=w3.drewN q):=fun q2=>by obtain⟨q,hq⟩:=HQ.out;exact⟨q+q2,by rw[hq,World.drewN_drewN]⟩
  have k1:=BZ1.out.cell 1
  have k2:=BZ2.out.cell 1
  simp only[List.getElem?_toArray,List.getElem?_cons_zero,List.getElem?_cons_succ]at k1 k2
  by_cases him:i<m
  ·have gi:decide ((i:Int)<(m:Int))=true:=by simp;omega
   have gi':decide (i<m)=true:=by simp;omega
   obtain⟨C1,k,e1,C2,e2,ids,g1,g2,g3,g4⟩:=HV.out i him
   have hl1:=eZ HL1.out (fun y hy=>HBr.out.block y (World.ownsRow.lt HL1.out y hy).2)
   have hl2:=eZ HL2.out (fun y hy=>HBr.out.block y (World.ownsRow.lt HL2.out y hy).2)
   obtain⟨gb1,cb1,hA1,_,_⟩:=hl1.form (by omega)
   injection hA1 with r1 r2 r3
   subst r1 r3
   obtain⟨gb2,cb2,hA2,_,_⟩:=hl2.form (by omega)
   injection hA2 with r1 r2 r3
   subst r1 r3
   have x1:wr.cell? ⟨gb1,i,none⟩=some (.slice C1 k e1):=by rw[hl1.cellAt i (by omega)];exact g1
   have x2:wr.cell? ⟨gb2,i,none⟩=some (.slice C2 k e2):=by rw[hl2.cellAt i (by omega)];exact g2
   have y0:(0:Int)<=(i:Int):=by omega
   have y1:(i:Int)<(m:Int):=by omega
   have D:=hid (fun q=>DI.out (wr.drewN q) (below_drewN HBr.out q) i C1 k e1 C2 e2 ids g1 g2 g3 g4)
   clear hl1 hl2 g1 g2 g3 g4
   go_wp2_with fail
   go_quiet ((go_at_call 11;exact Calls.quiet_of (D.out _)))
   go_wp2_with fail
   go_roundw
   case measure=>go_light;simp[intOf];omega
   case rel=>go_light;exact⟨i+1,by omega,by first|rfl|go_num,(HQS _).out⟩
  ·obtain rfl:i=m:=by omega
   have gi:decide ((i:Int)<(i:Int))=false:=by simp
   go_wp2_with fail
   go_ret
   exact⟨rfl,HBr.out⟩
end Go.Proofs.YtbgoibedicbkjaaGreatDoor.Idx
