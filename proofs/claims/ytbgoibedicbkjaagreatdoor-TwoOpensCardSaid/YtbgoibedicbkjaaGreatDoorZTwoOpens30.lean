/- An opened body: the plain part, and how it lies in memory. The walk of -/
import Derived.Test.YtbgoibedicbkjaaGreatDoorZTwoOpens21
import Derived.Test.YtbgoibedicbkjaaGreatDoorZTwoOpens28
import Derived.Test.YtbgoibedicbkjaaGreatDoorZTwoOpens29
namespace Go.Proofs.YtbgoibedicbkjaaGreatDoor end Go.Proofs.YtbgoibedicbkjaaGreatDoor open Go.Proofs.YtbgoibedicbkjaaGreatDoor
open Go.Lib (hid)
namespace Go.Proofs.YtbgoibedicbkjaaGreatDoor.Body
open Go.RowKit Mem Own Canon Nums Crc Recs
open Opts
open Go.Proofs.YtbgoibedicbkjaaGreatDoor.Idx (Str IxAt)
instance footDec (ls:List Nat):Decidable (qgZ ls):=by unfold qgZ;exact inferInstance
def pdZ(ls:List Nat):Nat:=ls.length-4-wgZ (ls.drop (ls.length-4))
def yZ(ls:List Nat):List Nat:=xZ (fdZ ls)
def oN(ls:List Nat):Nat:=(kcZ (yZ ls)).sum
def bdZ(ls:List Nat):List Nat:=((ls.take (pdZ ls)).drop (qcZ (yZ ls)).sum).take (dP (yZ ls))
def yfZ(ls:List Nat):List Nat:=(ls.take (pdZ ls)).drop ((qcZ (yZ ls)).sum+dP (yZ ls))
def opnI(o:Opt)(ls:List Nat):Int:=if icZ (yfZ ls)≠0 then icZ (yfZ ls)else(Idx.ixR o.bucket.toNat (oN ls) (xZ (yfZ ls))).2
def zrZ(o:Opt)(ls:List Nat):Int:=if tkZ (oN ls) (bdZ ls)≠0 then tkZ (oN ls) (bdZ ls)else opnI o ls
def asZ(o:Opt)(ls:List Nat):Int:=if jhZ (pdZ ls) (yZ ls)≠0 then jhZ (pdZ ls) (yZ ls)else zrZ o ls
def bsZ(o:Opt)(ls:List Nat):Int:=if qgZ ls then 1 else if icZ (fdZ ls)≠0 then icZ (fdZ ls)else asZ o ls
def idZ(o:Opt)(ls:List Nat):Int:=if oeZ o≠0 then oeZ o else bsZ o ls
theorem zeZb{room:Nat}{ls:List Nat}(h:jhZ room ls=0):0 ∉ kcZ ls/\(kcZ ls).sum=gdZ ls/\(qcZ ls).sum+dP ls+dQ ls=room:=by
 unfold jhZ at h
 split at h
 ·rename_i he;exact absurd h he
 ·split at h
  ·cases h
  ·rename_i hn
   exact⟨fun h=>hn (.inl h),Classical.byContradiction fun h=>hn (.inr (.inl h)),Classical.byContradiction fun h=>hn (.inr (.inr h))⟩
def BodyAt(w:World)(base gb:Nat)(C S T L:List Nat)(X:List Str×List (List Nat))(F:List (List Nat))(K:List Bool):Prop:=
 ∃vc vs p q vt vl vT vL vF va vals fv,Blk w gb 96 #[vc,vs,p,q,vt,vl,vT,vL,vF,va]/\w.ownsRow base 3 1 vc C.length (cZ .i64 C)/\w.ownsRow base 3 1 vs S.length (cZ .i64 S)/\
  w.ownsRow base 57 1 vt T.length (cZ .u64 T)/\w.ownsRow base 5 1 vl L.length (cZ .u8 L)/\IxAt w base vT vL vals X.1 X.2/\FrAt w base vF fv F/\w.ownsRow base 4 1 va K.length (K.map Value.bool)
theorem BodyAt.step{w w':World}{base gb:Nat}{C S T L:List Nat}{X:List Str×List (List Nat)}{F:List (List Nat)}{K:List Bool}(h:BodyAt w base gb C S T L X F K)(hb:Below w.heap.size w w'):BodyAt w' base gb C S T L X F K:=by
 obtain⟨vc,vs,p,q,vt,vl,vT,vL,vF,va,vals,fv,h0,h1,h2,h3,h4,h5,h6,h7⟩:=h
 have far:∀ {n:Nat} {e:TypeId} {v:Value} {xs:List Value},w.ownsRow base e 1 v n xs->w'.ownsRow base e 1 v n xs:=fun ho=>eZ ho fun y hy=>hb.block y (World.ownsRow.lt ho y hy).2
 exact⟨vc,vs,p,q,vt,vl,vT,vL,vF,va,vals,fv,h0.step hb,far h1,far h2,far h3,far h4,⟨far h5.t,far h5.l,fun i v ids hv hi=>far (h5.r i v ids hv hi)⟩,h6.step hb,far h7⟩
structure BSt (w:World) (base gb:Nat) (C S:List Nat) (F:List (List Nat)) (K:List Bool) (vc vs x2 x3 x4 x5 x6 x7 vF va:Value) (fv:List Value):Prop where
 blk:Blk w gb 96 #[vc,vs,x2,x3,x4,x5,x6,x7,vF,va]
 oc:w.ownsRow base 3 1 vc C.length (cZ .i64 C)
 os:w.ownsRow base 3 1 vs S.length (cZ .i64 S)
 fr:FrAt w base vF fv F
 oa:w.ownsRow base 4 1 va K.length (K.map Value.bool)
theorem BSt.keep{w w':World}{base gb:Nat}{C S:List Nat}{F:List (List Nat)}{K:List Bool}{vc vs x2 x3 x4 x5 x6 x7 vF va y4 y5 y6 y7:Value}{fv:List Value}(h:BSt w base gb C S F K vc vs x2 x3 x4 x5 x6 x7 vF va fv)(hk:Kept (fun x=>x<w.heap.size/\x≠gb) w w')(hb:Blk w' gb 96 #[vc,vs,x2,x3,y4,y5,y6,y7,vF,va]):BSt w' base gb C S F K vc vs x2 x3 y4 y5 y6 y7 vF va fv:=by
 have far:∀ {n:Nat} {e:TypeId} {v:Value} {xs:List Value},w.ownsRow base e 1 v n xs->e≠96->w'.ownsRow base e 1 v n xs:=fun ho hne=>eZ ho fun y hy=>hk.block y ⟨(World.ownsRow.lt ho y hy).2,fun e=>jZ ho h.blk hne (e ▸ hy)⟩
 exact⟨hb,far h.oc (by decide),far h.os (by decide),⟨far h.fr.l (by decide),fun i v b hv hi=>far (h.fr.r i v b hv hi) (by decide)⟩,far h.oa (by decide)⟩
theorem BSt.step{w w':World}{base gb:Nat}{C S:List Nat}{F:List (List Nat)}{K:List Bool}{vc vs x2 x3 x4 x5 x6 x7 vF va:Value}{fv:List Value}(h:BSt w base gb C S F K vc vs x2 x3 x4 x5 x6 x7 vF va fv)(hb:Below w.heap.size w w'):BSt w' base gb C S F K vc vs x2 x3 x4 x5 x6 x7 vF va fv:=
 h.keep (Kept.of_below hb fun _ hx=>hx.1) (h.blk.step hb)
theorem afZb:(Tryz.prog.info? 4).map (fun i=>(i.zero,i.size,i.bytes))=some (some (.bool false),1,1):=by kernel_rfl
theorem bfZb(n:Nat)(hn:n<=8388608)(w:World):(Instr.makeSlice 66 (.int .i64 (n:Int)) (.int .i64 (n:Int))).run Tryz.prog w=
 .ok (.slice (some ⟨w.heap.size,0,none⟩) n n) (w.alloc (.cells (madeCells #[.bool false] n) 4)):=by
 obtain⟨i0,hi,hz0,hz1,hz2⟩:=info_parts afZb
 have h:=run_make (P:=Tryz.prog) w 66 4 i0 (.bool false) Tryz.underlying66 hi hz0 .i64 .i64 (n:Int) (n:Int) (by omega) (Int.le_refl _) (by rw[hz2];omega) (by omega)
 simp only[Int.toNat_natCast]at h
 simpa[hz1,Value.cells]using h
theorem cfZb(w:World)(base n:Nat)(hb:base<=w.heap.size)(hn:n<=8388608):(w.alloc (.cells (madeCells #[.bool false] n) 4)).ownsRow base 4 1 (.slice (some ⟨w.heap.size,0,none⟩) n n) n ((List.replicate n false).map Value.bool):=by
 refine⟨by simp, .inr ⟨w.heap.size,n,madeCells #[.bool false] n,rfl,hb,heap_alloc_new w _,Nat.le_refl _,by unfold maxLen;omega,by simp[size_madeCells],?_⟩⟩
 apply List.ext_getElem
 ·simp[madeCells]
 ·intro i h1 h2
  simp[madeCells,Nat.mod_one]
def ttZ(o:Opt)(ls:List Nat)(w:World)(e:Ending)(w':World):Prop:=
 Below w.heap.size w w'/\(idZ o ls≠0->e= .returned (.tuple #[.pointer none, .int .i64 (idZ o ls)]))/\
  (idZ o ls=0->∃gb,e= .returned (.tuple #[.pointer (some ⟨gb,0,none⟩), .int .i64 0])/\BodyAt w' w.heap.size gb (kcZ (yZ ls)) (qcZ (yZ ls)) (jbZ (oN ls) (xZ (bdZ ls))).1 (jbZ (oN ls) (xZ (bdZ ls))).2.1 (Idx.ixR o.bucket.toNat (oN ls) (xZ (yfZ ls))).1 (sbZ (qcZ (yZ ls)) (ls.take (pdZ ls))) (List.replicate (qcZ (yZ ls)).length false))
theorem riZ{o:Opt}{ls:List Nat}{w w':World}{er:Int}(hE:idZ o ls=er)(hne:er≠0)(hb:Below w.heap.size w w'):ttZ o ls w (.returned (.tuple #[.pointer none, .int .i64 er])) w':=by
 subst hE
 exact⟨hb,fun _=>rfl,fun h=>absurd h hne⟩
theorem xoZ{o:Opt}(h:oeZ o=0):∃bu:Nat,o.bucket=(bu:Int)/\1<=bu/\bu<=64:=by
 unfold oeZ mdZ Opt.body at h
 split at h
 ·rename_i hc
  obtain⟨_,⟨h1,h2⟩,_⟩:=hc
  simp only at h1 h2
  exact⟨o.bucket.toNat,by omega,by omega,by omega⟩
 ·cases h
end Go.Proofs.YtbgoibedicbkjaaGreatDoor.Body
namespace Go.Proofs.YtbgoibedicbkjaaGreatDoor.Body
open Go.RowKit Mem Own Canon Nums Crc Recs
open Opts
open Go.Proofs.YtbgoibedicbkjaaGreatDoor.Idx (Str IxAt ntZ)
set_option maxHeartbeats 4000000 in
set_option maxRecDepth 100000 in
theorem dfZb(w:World)(o:Opt)(A:Option Addr)(n c:Nat)(ls:List Nat)(hn:ls.length=n)(hle:n<=100000)(hc:n<=c)(h8:∀x∈ls,x<=255)(hnil:A=none->n=0/\c=0)(ht:TabAt w)(ha:Row w w.heap.size A n 1 (mZ .u8 ls)):
 Calls Tryz.prog 18 #[o.val, .slice A n c] w (ttZ o ls w):=by
 have HRO:Hid (∀wx,Below w.heap.size w wx->Row wx wx.heap.size A n 1 (mZ .u8 ls)):=fun wx h=>(ha.below h).mono h.size
 have D0:=hid (fun wx=>nqZ wx o)
 have D1:=hid (fun wx (h:Below w.heap.size w wx)=>ahZb wx A n c ls hn hle hc h8 (ht.step h) (fun a _=>rfl) (HRO.out wx h))
 have HT:=hid ht
 have HN:=hid hn
 have H8:=hid h8
 have HN0:=hid hnil
 have HA:=hid ha
 have HBU:Hid (oeZ o=0->∃bu:Nat,o.bucket=(bu:Int)/\1<=bu/\bu<=64):=xoZ
 clear ha hnil h8 ht hn HRO
 obtain⟨O,hO⟩:∃O,O=idZ o ls:=⟨_,rfl⟩
 have HO:=hid hO
 unfold idZ at hO
 generalize oeZ o=oe at *
 have HOE:=hid hO
 clear hO
 unfold Opt.val
 unfold Opt.val at D0
 generalize hb2:o.bucket=b2 at *
 have HBQ:=hid hb2
 clear hb2
 generalize o.block=b0 at *
 generalize o.plain=b1 at *
 generalize o.data=b3 at *
 generalize o.parity=b4 at *
 generalize o.chunk=b5 at *
 go_enter Tryz.func18,Tryz.ntmps18
 go_wp2_with fail
 have hob:Blk (w.alloc (.cells #[.int .i64 b0, .bool b1, .int .i64 b2, .int .i64 b3, .int .i64 b4, .int .i64 b5] 25)) w.heap.size 25 #[.int .i64 b0, .bool b1, .int .i64 b2, .int .i64 b3, .int .i64 b4, .int .i64 b5]:=Blk.made _ _ _
 have hb1:Below w.heap.size w (w.alloc (.cells #[.int .i64 b0, .bool b1, .int .i64 b2, .int .i64 b3, .int .i64 b4, .int .i64 b5] 25)):=aZ (Below.refl _ _)
 have hz1:w.heap.size+1<=(w.alloc (.cells #[.int .i64 b0, .bool b1, .int .i64 b2, .int .i64 b3, .int .i64 b4, .int .i64 b5] 25)).heap.size:=by simp
 generalize w.alloc (.cells #[.int .i64 b0, .bool b1, .int .i64 b2, .int .i64 b3, .int .i64 b4, .int .i64 b5] 25)=w1 at *
 have HOB1:=hid hob
 have HB1:=hid hb1
 clear hob hb1
 refine(D0.out _).mono ?_
 rintro e w2 ⟨rfl,hb2⟩
 have HB2:Hid (Below w.heap.size w w2):=HB1.out.trans (hb2.mono (by omega))
 have HOB2:=hid (HOB1.out.step hb2)
 have z2:=hb2.size
 clear hb2 HB1 HOB1 D0
 by_cases hoe:oe=0
 ·subst hoe
  obtain⟨bu,rfl,hbu1,hbu2⟩:=HBU.out rfl
  have hO:=HOE.out
  rw[if_neg (show ¬((0:Int)≠0) from fun h=>h rfl)]at hO
  have HOF:=hid hO
  have D1:=hid (D1.out w2 HB2.out)
  have HBT:Hid (o.bucket.toNat=bu):=by show _=_;rw[HBQ.out];exact Int.toNat_natCast _
  clear hO HBU HBQ
  go_wp2_with fail
  refine D1.out.mono ?_
  rintro e w3 ⟨hb3,hbad,hok⟩
  have HB3:Hid (Below w.heap.size w w3):=HB2.out.trans (hb3.mono (by omega))
  have HOB3:=hid (HOB2.out.step hb3)
  have z3:=hb3.size
  by_cases hfb:qgZ ls
  ·obtain rfl:=hbad hfb
   have HF:Hid (O=1):=by have h:=HOF.out;unfold bsZ at h;rw[if_pos hfb]at h;exact h
   have HNE:Hid ((1:Int)≠0):=show(1:Int)≠0 by decide
   have HBX:=HB3
   clear hfb hbad hok hb3 HOB2 HOB3 D1
   go_wp2_with fail
   go_ret2
   exact riZ (HO.out.symm.trans HF.out) HNE.out HBX.out
  ·obtain⟨v,rfl,hov⟩:=hok hfb
   have hO:=HOF.out
   unfold bsZ at hO
   rw[if_neg hfb]at hO
   rw[show ls.length-4-wgZ (ls.drop (ls.length-4))=pdZ ls from rfl]
   have hrl:pdZ ls<=n:=by unfold pdZ;rw[HN.out];omega
   obtain⟨r,hr⟩:∃r,r=pdZ ls:=⟨_,rfl⟩
   rw[<-hr]at hrl ⊢
   have HRR:=hid hr
   have HOG:=hid hO
   have hov:w3.ownsRow w2.heap.size 5 1 v (yZ ls).length (cZ .u8 (yZ ls)):=hov
   have hdl:(yZ ls).length<=n:=by
    unfold yZ
    refine Nat.le_trans (qjZ _) ?_
    unfold fdZ
    rw[List.length_take,List.length_drop,HN.out]
    omega
   have hd8:∀x∈yZ ls,x<=255:=by
    unfold yZ
    exact tgZ (fun x hx=>by unfold fdZ at hx;exact H8.out x (List.mem_of_mem_drop (List.mem_of_mem_take hx)))
   generalize icZ (fdZ ls)=ce at *
   obtain⟨D,hD⟩:∃D,D=yZ ls:=⟨_,rfl⟩
   rw[<-hD]at hov hdl hd8
   have HDD:=hid hD
   have HD8:=hid hd8
   obtain⟨dl,hdl2⟩:∃dl,dl=D.length:=⟨_,rfl⟩
   rw[<-hdl2]at hov hdl
   obtain⟨Ad,cd,rfl⟩:=bZ hov
   have HDL:=hid hdl2
   have HOV:=hid hov
   have HAR:Hid (Row w w.heap.size A r 1 (mZ .u8 (ls.take r))):=hbZ HA.out hrl
   clear hfb hbad hok hb3 HOB2 D1 hO hr hD hd8 hov hdl2
   by_cases hce:ce=0
   ·subst hce
    have hO:=HOG.out
    rw[if_neg (show ¬((0:Int)≠0) from fun h=>h rfl)]at hO
    have HOD:=hid hO
    clear hO HOG HOF
    go_wp2_with fail
    have hx4:Blk (w3.alloc (.cells #[.slice none 0 0, .slice none 0 0, .int .i64 0, .int .i64 0, .slice none 0 0, .slice none 0 0, .slice none 0 0, .slice none 0 0, .slice none 0 0, .slice none 0 0] 96)) w3.heap.size 96 #[.slice none 0 0, .slice none 0 0, .int .i64 0, .int .i64 0, .slice none 0 0, .slice none 0 0, .slice none 0 0, .slice none 0 0, .slice none 0 0, .slice none 0 0]:=Blk.made _ _ _
    have hb4:Below w3.heap.size w3 (w3.alloc (.cells #[.slice none 0 0, .slice none 0 0, .int .i64 0, .int .i64 0, .slice none 0 0, .slice none 0 0, .slice none 0 0, .slice none 0 0, .slice none 0 0, .slice none 0 0] 96)):=aZ (Below.refl _ _)
    have hz4:w3.heap.size+1<=(w3.alloc (.cells #[.slice none 0 0, .slice none 0 0, .int .i64 0, .int .i64 0, .slice none 0 0, .slice none 0 0, .slice none 0 0, .slice none 0 0, .slice none 0 0, .slice none 0 0] 96)).heap.size:=by simp
    have hov4:=HOV.out.alloc (.cells #[.slice none 0 0, .slice none 0 0, .int .i64 0, .int .i64 0, .slice none 0 0, .slice none 0 0, .slice none 0 0, .slice none 0 0, .slice none 0 0, .slice none 0 0] 96)
    generalize w3.alloc (.cells #[.slice none 0 0, .slice none 0 0, .int .i64 0, .int .i64 0, .slice none 0 0, .slice none 0 0, .slice none 0 0, .slice none 0 0, .slice none 0 0, .slice none 0 0] 96)=w4 at *
    have HB4:Hid (Below w.heap.size w w4):=HB3.out.trans (hb4.mono (by omega))
    have HOB4:=hid (HOB3.out.step hb4)
    have hgb4:w3.heap.size<w4.heap.size:=by omega
    generalize hgb:w3.heap.size=gb at *
    have hgw:w.heap.size<gb:=by omega
    rw[HDL.out]at hov4
    have DD:=hid (zxZ w4 gb 96 (.int .i64 0) (.int .i64 0) [.slice none 0 0, .slice none 0 0, .slice none 0 0, .slice none 0 0, .slice none 0 0, .slice none 0 0] Ad dl cd r D hx4 (by decide) (by decide) HDL.out.symm (by omega) HD8.out (by rw[HDL.out];exact fhZ hov4) (by have h:=own_row hov4;rw[<-HDL.out]at h;exact h))
    have HN5:Hid (jhZ r D=0->0 ∉ kcZ D/\(kcZ D).sum=gdZ D/\(qcZ D).sum+dP D+dQ D=r):=zeZb
    have HRC:Hid (gdZ D<=20000):=qbZ HD8.out _ _
    have HSL:Hid ((kcZ D).length=(qcZ D).length/\(kcZ D).length<=20000):=by
     have h:=emZ (rec:=gdZ D) (ls:=D) (xgZ D) (pZ (gdZ D) D (pZ 20000 D 0 0) (qZ 20000 D 0 0)) (qZ (gdZ D) D (pZ 20000 D 0 0) (qZ 20000 D 0 0)) [] [] rfl
     have h2:xgZ D<=20000:=Nat.le_trans (qbZ HD8.out _ _) HRC.out
     refine⟨h.1,?_⟩
     have h3:(kcZ D).length<=0+xgZ D:=h.2.1
     omega
    unfold urZ at DD
    unfold asZ at HOD
    rw[<-HRR.out,<-HDD.out]at HOD
    generalize jhZ r D=de at *
    clear hx4 hb4 hov4 HOB3 HOV HB3 hgb hz4
    refine DD.out.mono ?_
    rintro e w5 ⟨rfl,hk5,hok5⟩
    have HB5:Hid (Below w.heap.size w w5):=HB4.out.trans (hk5.below fun b h=>⟨by omega,by omega⟩)
    have HOB5:Hid (Blk w5 w.heap.size 25 #[.int .i64 b0, .bool b1, .int .i64 (bu:Nat), .int .i64 b3, .int .i64 b4, .int .i64 b5]):=(hk5.block w.heap.size ⟨by omega,by omega⟩).trans HOB4.out
    have z5:=hk5.size
    by_cases hde:de=0
    ·subst hde
     obtain⟨vc,vs,hx5,hoc5,hos5,hap5⟩:=hok5 rfl
     obtain⟨hz0,hcs,hss⟩:=HN5.out rfl
     have hO:=HOD.out
     rw[if_neg (show ¬((0:Int)≠0) from fun h=>h rfl)]at hO
     unfold zrZ oN bdZ at hO
     rw[<-HRR.out,<-HDD.out]at hO
     have HOC:=hid hO
     have HN20:Hid ((kcZ D).sum<=20000):=by show _<=_;rw[hcs];exact HRC.out
     obtain⟨C,hC⟩:∃C,C=kcZ D:=⟨_,rfl⟩
     obtain⟨S,hS⟩:∃S,S=qcZ D:=⟨_,rfl⟩
     have HCC:=hid hC
     have HSS:=hid hS
     rw[<-hC]at hoc5 HN20 HSL hcs HOC
     rw[<-hS]at hos5 hss HSL HOC
     obtain⟨p,hp⟩:∃p,p=dP D:=⟨_,rfl⟩
     obtain⟨q,hq⟩:∃q,q=dQ D:=⟨_,rfl⟩
     have HPP:=hid hp
     rw[<-hp]at hx5 hss HOC
     rw[<-hq]at hx5 hss
     obtain⟨ns,hns⟩:∃ns,ns=S.length:=⟨_,rfl⟩
     have HNS:=hid hns
     have hnl:ns<=20000:=by rw[hns,<-HSL.out.1];exact HSL.out.2
     rw[<-hns]at hos5
     obtain⟨As,cs,rfl⟩:=bZ hos5
     have hrl2:(ls.take r).length=r:=by rw[List.length_take,HN.out];omega
     have h8r:∀x∈ls.take r,x<=255:=fun x hx=>H8.out x (List.mem_of_mem_take hx)
     have DS:=peZb w5 gb w.heap.size w4.heap.size p q 96 vc (.slice none 0 0) (.slice none 0 0) (.slice none 0 0) (.slice none 0 0) [.slice none 0 0] As A ns cs r c S (ls.take r) hx5 (by decide) (by decide) (by decide) hns.symm (by omega) hos5 hrl2 (by omega) (by omega) h8r (by omega) (HAR.out.below HB5.out) (by omega) (fun e=>by have:=HN0.out e;omega)
     unfold jnZ at DS
     rw[hrl2,show r-S.sum-p=q by omega]at DS
     have DS:=hid DS
     have HOC5:=hid hoc5
     have HOS5:=hid hos5
     have HAP5:=hid hap5
     have hqr:q<=r:=by omega
     have hpr:p<=r:=by omega
     have HSUM:=hid hss
     clear hO hC hS hp hq hns hx5 hoc5 hos5 hap5 hz0 hcs hss hk5 hok5 DD HN5 HRC HOD hrl2 h8r HOB4 HB4
     go_wp2_with fail
     refine DS.out.mono ?_
     rintro e w6 ⟨A2,A3,c2,c3,vF,fv,rfl,hpc2,hqc3,hr2,hr3,hsp⟩
     have HB6:Hid (Below w.heap.size w w6):=HB5.out.trans (hsp.kept.below fun b h=>⟨by omega,by omega⟩)
     have z6:=hsp.kept.size
     have hfl:(sbZ S (ls.take r)).length=ns:=by rw[okZ,HNS.out]
     have hfr:=hsp.fr.l
     rw[hfl]at hfr
     obtain⟨Af,cf,rfl⟩:=bZ hfr
     have b8:=hsp.blk.cell 8
     have b9:=hsp.blk.cell 9
     have f9:=hsp.blk.frozen 9
     simp only[List.cons_append,List.nil_append,List.getElem?_toArray,List.getElem?_cons_zero,List.getElem?_cons_succ]at b8 b9
     have HSP:=hid hsp
     have HR2:Hid (Row w w.heap.size A2 p 1 (mZ .u8 (((ls.take r).drop S.sum).take p))):=hr2.keep fun a ha=>(HB5.out.cell ha).symm
     have HR3:Hid (Row w w.heap.size A3 q 1 (mZ .u8 ((ls.take r).drop (S.sum+p)))):=hr3.keep fun a ha=>(HB5.out.cell ha).symm
     have hmk:=bfZb ns (by omega)
     have hgb6:gb<w6.heap.size:=by omega
     have HOB6:Hid (Blk w6 w.heap.size 25 #[.int .i64 b0, .bool b1, .int .i64 (bu:Nat), .int .i64 b3, .int .i64 b4, .int .i64 b5]):=(hsp.kept.block w.heap.size ⟨by omega,by omega⟩).trans HOB5.out
     have oc6:w6.ownsRow w4.heap.size 3 1 vc C.length (cZ .i64 C):=eZ HOC5.out (fun y hy=>hsp.kept.block y ⟨(World.ownsRow.lt HOC5.out y hy).2,by have:=(World.ownsRow.lt HOC5.out y hy).1;omega⟩)
     have os6:w6.ownsRow w4.heap.size 3 1 (.slice As ns cs) ns (cZ .i64 S):=eZ HOS5.out (fun y hy=>hsp.kept.block y ⟨(World.ownsRow.lt HOS5.out y hy).2,by have:=(World.ownsRow.lt HOS5.out y hy).1;omega⟩)
     have hbs7:=cfZb w6 w.heap.size ns (by omega) (by omega)
     have hB7:Blk ((w6.alloc (.cells (madeCells #[.bool false] ns) 4)).setCell ⟨gb,9,none⟩ (.slice (some ⟨w6.heap.size,0,none⟩) ns ns)) gb 96 #[vc, .slice As ns cs, .int .i64 (p:Nat), .int .i64 (q:Nat), .slice none 0 0, .slice none 0 0, .slice none 0 0, .slice none 0 0, .slice Af ns cf, .slice (some ⟨w6.heap.size,0,none⟩) ns ns]:=by
      have h:=(hsp.blk.alloc (.cells (madeCells #[.bool false] ns) 4)).set 9 (.slice (some ⟨w6.heap.size,0,none⟩) ns ns)
      simpa using h
     have hb6:=hsp.blk.alloc (.cells (madeCells #[.bool false] ns) 4)
     have HST:Hid (BSt ((w6.alloc (.cells (madeCells #[.bool false] ns) 4)).setCell ⟨gb,9,none⟩ (.slice (some ⟨w6.heap.size,0,none⟩) ns ns)) w.heap.size gb C S (sbZ S (ls.take r)) (List.replicate ns false) vc (.slice As ns cs) (.int .i64 (p:Nat)) (.int .i64 (q:Nat)) (.slice none 0 0) (.slice none 0 0) (.slice none 0 0) (.slice none 0 0) (.slice Af ns cf) (.slice (some ⟨w6.heap.size,0,none⟩) ns ns) fv):=by
      refine⟨hB7,lZ (vZ (oc6.alloc _) (jZ (oc6.alloc _) hb6 (by decide)) _) (by omega),lZ (vZ (by rw[<-HNS.out];exact os6.alloc _) (jZ (by exact os6.alloc _) hb6 (by decide)) _) (by omega),?_,?_⟩
      ·exact((hsp.fr.step (aZ (Below.refl _ _))).mono (by omega)).set hb6 (by decide) (by decide) 9 _
      ·rw[List.length_replicate]
       exact vZ hbs7 (jZ hbs7 hb6 (by decide)) _
     have hbb7:Below w6.heap.size w6 (w6.alloc (.cells (madeCells #[.bool false] ns) 4)):=aZ (Below.refl _ _)
     have hk7:Kept (fun x=>x<w6.heap.size/\x≠gb) w6 ((w6.alloc (.cells (madeCells #[.bool false] ns) 4)).setCell ⟨gb,9,none⟩ (.slice (some ⟨w6.heap.size,0,none⟩) ns ns)):=(Kept.of_below hbb7 (fun x hx=>hx.1)).set (fun h=>h.2 rfl) _
     have HOB7:Hid (Blk ((w6.alloc (.cells (madeCells #[.bool false] ns) 4)).setCell ⟨gb,9,none⟩ (.slice (some ⟨w6.heap.size,0,none⟩) ns ns)) w.heap.size 25 #[.int .i64 b0, .bool b1, .int .i64 (bu:Nat), .int .i64 b3, .int .i64 b4, .int .i64 b5]):=(hk7.block w.heap.size ⟨by omega,by omega⟩).trans HOB6.out
     have HB7:Hid (Below w.heap.size w ((w6.alloc (.cells (madeCells #[.bool false] ns) 4)).setCell ⟨gb,9,none⟩ (.slice (some ⟨w6.heap.size,0,none⟩) ns ns))):=HB6.out.trans (hk7.below fun b h=>⟨by omega,by omega⟩)
     have z7:=hk7.size
     clear hsp hr2 hr3 hfr hfl DS oc6 os6 hbs7 hB7 hb6 hbb7 hk7 HOC5 HOS5 HAP5 HOB6 HB6 HSP HOB5
     have hweq:=World.setCell_alloc_past (w:=w6) (.cells (madeCells #[.bool false] ns) 4) gb 9 (.slice (some ⟨w6.heap.size,0,none⟩) ns ns) hgb6
     have HWE:=hid hweq
     clear hweq
     go_wp2_with fail
     rw[<-HWE.out]
     clear HWE
     generalize (w6.alloc (.cells (madeCells #[.bool false] ns) 4)).setCell ⟨gb,9,none⟩ (.slice (some ⟨w6.heap.size,0,none⟩) ns ns)=w7 at *
     obtain⟨N,hN⟩:∃N,N=C.sum:=⟨_,rfl⟩
     obtain⟨col,hcol⟩:∃col,col=((ls.take r).drop S.sum).take p:=⟨_,rfl⟩
     obtain⟨kc,hkc⟩:∃kc,kc=C.length:=⟨_,rfl⟩
     have hst:=HST.out
     have hoc:=hst.oc
     rw[<-hkc]at hoc
     obtain⟨Ac,cc,rfl⟩:=bZ hoc
     have hkl:kc<=20000:=by rw[hkc];exact HSL.out.2
     have hN2:N<=20000:=by rw[hN];exact HN20.out
     have hcl:col.length=p:=by rw[hcol,List.length_take,List.length_drop,List.length_take,HN.out];have:=HSUM.out;omega
     have hc8:∀x∈col,x<=255:=fun x hx=>by rw[hcol]at hx;exact H8.out x (List.mem_of_mem_take (List.mem_of_mem_drop (List.mem_of_mem_take hx)))
     have HCL8:=hid hc8
     have DLEN:=hid (fun wx (hb:Below w7.heap.size w7 wx)=>jwZ wx gb kc cc Ac C ((hst.blk.step hb).cell 0) hkc.symm (by omega) (by rw[<-hN];omega) (own_ints (eZ hoc (fun y hy=>hb.block y (World.ownsRow.lt hoc y hy).2)) hkc.symm))
     rw[<-hN]at DLEN
     have DCO:=hid (fun wx (hb:Below w7.heap.size w7 wx)=>gyZ wx gb 96 _ A2 p c2 N col (hst.blk.step hb) (by simp) (by decide) (by decide) hcl (by omega) hpc2 hc8 (HT.out.step (HB7.out.trans (hb.mono (by omega)))) (by rw[hcol];exact(HR2.out.below (HB7.out.trans (hb.mono (by omega)))).mono (by have:=hb.size;omega)) hN2)
     unfold zpZ at DCO
     rw[<-hN,<-hcol]at HOC
     have HNN:=hid hN
     have HCOL:=hid hcol
     have HKC:=hid hkc
     generalize hcE:tkZ N col=cE at *
     have HCE:=hid hcE
     clear hst hoc hN hcol hkc hcl hc8 hcE HR2 HN20 HSL hmk b8 b9 f9
     go_region_held3 (fun _=>True) (trivial) (first|(go_at_call 64;(with_reducible refine(DLEN.out _ (by(repeat(first|(with_reducible first|exact Below.refl _ _|assumption|refine Below.drew ?_|refine below_drewN ?_ _|refine aZ ?_|refine dZ (by assumption) ?_)|((with_reducible first|refine fZ ?_ ?_|refine gZ ?_ ?_|refine iZ (by assumption) ?_ ?_);(focus(first|(simp;done)|(simp;omega)|omega|(simp at *;omega)))))))).mono ?_);rintro e wA ⟨rfl,rfl⟩)|(go_at_call 63;(with_reducible refine(DCO.out _ (by(repeat(first|(with_reducible first|exact Below.refl _ _|assumption|refine Below.drew ?_|refine below_drewN ?_ _|refine aZ ?_|refine dZ (by assumption) ?_)|((with_reducible first|refine fZ ?_ ?_|refine gZ ?_ ?_|refine iZ (by assumption) ?_ ?_);(focus(first|(simp;done)|(simp;omega)|omega|(simp at *;omega)))))))).mono ?_);rintro e w8 ⟨rfl,hk8,hok8⟩))
     all_goals
      have hk8:Kept (fun x=>x<w7.heap.size/\x≠gb) w7 w8:=⟨hk8.os,hk8.tape,hk8.output,hk8.size,hk8.block⟩
      have z8:=hk8.size
      have HB8:Hid (Below w.heap.size w w8):=HB7.out.trans (hk8.below fun b h=>⟨by omega,by omega⟩)
      have HOB8:Hid (Blk w8 w.heap.size 25 #[.int .i64 b0, .bool b1, .int .i64 (bu:Nat), .int .i64 b3, .int .i64 b4, .int .i64 b5]):=(hk8.block w.heap.size ⟨by omega,by omega⟩).trans HOB7.out
      by_cases hce:cE=0
      ·subst hce
       obtain⟨vt,vl,hx8,hot8,hol8⟩:=hok8 rfl
       have hx8:Blk w8 gb 96 #[.slice Ac kc cc, .slice As ns cs, .int .i64 (p:Nat), .int .i64 (q:Nat),vt,vl, .slice none 0 0, .slice none 0 0, .slice Af ns cf, .slice (some ⟨w6.heap.size,0,none⟩) ns ns]:=by simpa using hx8
       have HST8:=hid (HST.out.keep hk8 hx8)
       have hot8:w8.ownsRow w.heap.size 57 1 vt (jbZ N (xZ col)).1.length (cZ .u64 (jbZ N (xZ col)).1):=lZ hot8 (by show _<=w7.heap.size;omega)
       have hol8:w8.ownsRow w.heap.size 5 1 vl (jbZ N (xZ col)).2.1.length (cZ .u8 (jbZ N (xZ col)).2.1):=lZ hol8 (by show _<=w7.heap.size;omega)
       have HOT8:=hid hot8
       have HOL8:=hid hol8
       have hO:=HOC.out
       rw[if_neg (show ¬((0:Int)≠0) from fun h=>h rfl)]at hO
       unfold opnI yfZ oN at hO
       rw[HBT.out,<-HRR.out,<-HDD.out,<-HSS.out,<-HCC.out,<-HPP.out,<-HNN.out]at hO
       obtain⟨idx,hidx⟩:∃idx,idx=(ls.take r).drop (S.sum+p):=⟨_,rfl⟩
       rw[<-hidx]at hO
       have hil:idx.length=q:=by rw[hidx,List.length_drop,List.length_take,HN.out];have:=HSUM.out;omega
       have hi8:∀x∈idx,x<=255:=fun x hx=>by rw[hidx]at hx;exact H8.out x (List.mem_of_mem_take (List.mem_of_mem_drop hx))
       have HIDX:=hid hidx
       have DCUT:=dlZ w8 A3 q c3 idx hil (by omega) hqc3 hi8 (HT.out.step HB8.out) (by rw[hidx];exact(HR3.out.below HB8.out).mono (by omega))
       unfold deZ at DCUT
       have hxl:(xZ idx).length<=100000:=by have:=qjZ idx;omega
       have HX8:Hid (∀x∈xZ idx,x<=255):=tgZ hi8
       generalize icZ idx=ie at *
       obtain⟨xi,hxi⟩:∃xi,xi=xZ idx:=⟨_,rfl⟩
       rw[<-hxi]at DCUT hxl HX8 hO
       have HXI:=hid hxi
       obtain⟨xm,hxm⟩:∃xm,xm=xi.length:=⟨_,rfl⟩
       rw[<-hxm]at DCUT hxl
       have HXM:=hid hxm
       have HOI:=hid hO
       have DCUT:=hid DCUT
       clear hx8 hot8 hol8 hok8 hO hidx hil hi8 hxi hxm hk8 HST HOC HR3 DLEN DCO HOB7 HB7 HT
       go_wp2_with fail
       refine DCUT.out.mono ?_
       rintro e w9 ⟨v9,rfl,ho9,hb9⟩
       obtain⟨A9,c9,rfl⟩:=bZ ho9
       have z9:=hb9.size
       have HST9:=hid (HST8.out.step hb9)
       have HB9:Hid (Below w.heap.size w w9):=HB8.out.trans (hb9.mono (by omega))
       have HOB9:=hid (HOB8.out.step hb9)
       have HOT9:=hid (eZ HOT8.out (fun y hy=>hb9.block y (World.ownsRow.lt HOT8.out y hy).2))
       have HOL9:=hid (eZ HOL8.out (fun y hy=>hb9.block y (World.ownsRow.lt HOL8.out y hy).2))
       have HO9:=hid ho9
       clear ho9 hb9 HST8 HB8 HOB8 HOT8 HOL8 DCUT
       by_cases hie:ie=0
       ·subst hie
        have hO:=HOI.out
        rw[if_neg (show ¬((0:Int)≠0) from fun h=>h rfl)]at hO
        have hst:=HST9.out
        have hoc:=hst.oc
        rw[<-HKC.out]at hoc
        have DLEN:=hid (fun wx (hb:Below w9.heap.size w9 wx)=>jwZ wx gb kc cc Ac C ((hst.blk.step hb).cell 0) HKC.out.symm (by omega) (by rw[<-HNN.out];omega) (own_ints (eZ hoc (fun y hy=>hb.block y (World.ownsRow.lt hoc y hy).2)) HKC.out.symm))
        rw[<-HNN.out]at DLEN
        have hwf:=lfZ HO9.out
        have hrow:Row w9 w9.heap.size A9 xm 1 (mZ .u8 xi):=by have h:=HO9.out;rw[HXM.out]at h;have h2:=own_row h;rw[<-HXM.out]at h2;exact h2
        have DPR:=hid (fun wx (hb:Below w9.heap.size w9 wx)=>ntZ wx A9 xm c9 bu N xi HXM.out.symm hxl HX8.out hwf.2 hwf.1 ((hrow.below hb).mono hb.size) hbu1 hbu2 hN2)
        unfold Idx.pjZ at DPR
        obtain⟨X,hX⟩:∃X,X=Idx.ixR bu N xi:=⟨_,rfl⟩
        rw[<-hX]at DPR hO
        have HXX:=hid hX
        obtain⟨xv,xe⟩:=X
        simp only at DPR hO
        have HOJ:=hid hO
        have k9:w9.cell? ⟨w.heap.size,2,none⟩=some (.int .i64 (bu:Nat)):=HOB9.out.cell 2
        clear hO hst hoc hwf hrow hX HOI
        go_wp2_with fail
        go_region_held3 (fun wx=>wx.cell? ⟨w.heap.size,2,none⟩=some (.int .i64 (bu:Nat))) (first|exact k9|exact k10|exact k11) (first|(go_at_call 64;(with_reducible refine(DLEN.out _ (by(repeat(first|(with_reducible first|exact Below.refl _ _|assumption|refine Below.drew ?_|refine below_drewN ?_ _|refine aZ ?_|refine dZ (by assumption) ?_)|((with_reducible first|refine fZ ?_ ?_|refine gZ ?_ ?_|refine iZ (by assumption) ?_ ?_);(focus(first|(simp;done)|(simp;omega)|omega|(simp at *;omega)))))))).mono ?_);rintro e wA ⟨rfl,rfl⟩)|(go_at_call 66;(with_reducible refine(DPR.out _ (by(repeat(first|(with_reducible first|exact Below.refl _ _|assumption|refine Below.drew ?_|refine below_drewN ?_ _|refine aZ ?_|refine dZ (by assumption) ?_)|((with_reducible first|refine fZ ?_ ?_|refine gZ ?_ ?_|refine iZ (by assumption) ?_ ?_);(focus(first|(simp;done)|(simp;omega)|omega|(simp at *;omega)))))))).mono ?_);rintro e w10 ⟨vT,vL,vals,rfl,hix,hb10⟩;obtain⟨AT,cT,rfl⟩:=bZ hix.t;obtain⟨AL,cL,rfl⟩:=bZ hix.l;have hbb:Below w9.heap.size w9 w10:=dZ hb10 (by(repeat(first|(with_reducible first|exact Below.refl _ _|assumption|refine Below.drew ?_|refine below_drewN ?_ _|refine aZ ?_|refine dZ (by assumption) ?_)|((with_reducible first|refine fZ ?_ ?_|refine gZ ?_ ?_|refine iZ (by assumption) ?_ ?_);(focus(first|(simp;done)|(simp;omega)|omega|(simp at *;omega)))))));have k10:w10.cell? ⟨w.heap.size,2,none⟩=some (.int .i64 (bu:Nat)):=(HOB9.out.step hbb).cell 2;have hs10:=HST9.out.step hbb;have m6:=hs10.blk.cell 6;have m7:=hs10.blk.cell 7;have n6:=hs10.blk.frozen 6;have n7:=hs10.blk.frozen 7;simp only[List.getElem?_toArray,List.getElem?_cons_zero,List.getElem?_cons_succ]at m6 m7;have k11:((w10.setCell ⟨gb,6,none⟩ (.slice AT xv.1.length cT)).setCell ⟨gb,7,none⟩ (.slice AL xv.2.length cL)).cell? ⟨w.heap.size,2,none⟩=some (.int .i64 (bu:Nat)):=(((HOB9.out.step hbb).far (p:=⟨gb,6,none⟩) (by show _≠gb;omega) _).far (p:=⟨gb,7,none⟩) (by show _≠gb;omega) _).cell 2))
        all_goals
         have hb9:=(hs10.blk.set 6 (.slice AT xv.1.length cT)).set 7 (.slice AL xv.2.length cL)
         have hs11:Blk ((w10.setCell ⟨gb,6,none⟩ (.slice AT xv.1.length cT)).setCell ⟨gb,7,none⟩ (.slice AL xv.2.length cL)) gb 96 #[.slice Ac kc cc, .slice As ns cs, .int .i64 (p:Nat), .int .i64 (q:Nat),vt,vl,(.slice AT xv.1.length cT),(.slice AL xv.2.length cL), .slice Af ns cf, .slice (some ⟨w6.heap.size,0,none⟩) ns ns]:=by simpa using hb9
         have hk11:Kept (fun x=>x<w10.heap.size/\x≠gb) w10 ((w10.setCell ⟨gb,6,none⟩ (.slice AT xv.1.length cT)).setCell ⟨gb,7,none⟩ (.slice AL xv.2.length cL)):=((Kept.refl _ _).set (fun h=>h.2 rfl) _).set (fun h=>h.2 rfl) _
         have hst11:=hs10.keep hk11 hs11
         have far:∀ {b n:Nat} {e:TypeId} {v:Value} {xs:List Value},w10.ownsRow b e 1 v n xs->e≠96->((w10.setCell ⟨gb,6,none⟩ (.slice AT xv.1.length cT)).setCell ⟨gb,7,none⟩ (.slice AL xv.2.length cL)).ownsRow b e 1 v n xs:=fun ho hne=>eZ ho fun y hy=>hk11.block y ⟨(World.ownsRow.lt ho y hy).2,fun e=>jZ ho hs10.blk hne (e ▸ hy)⟩
         have hz10:w9.heap.size<=w10.heap.size:=hbb.size
         have hzw:∀q,(w9.drewN q).heap.size=w9.heap.size:=fun _=>rfl
         have hB11:BodyAt ((w10.setCell ⟨gb,6,none⟩ (.slice AT xv.1.length cT)).setCell ⟨gb,7,none⟩ (.slice AL xv.2.length cL)) w.heap.size gb C S (jbZ N (xZ col)).1 (jbZ N (xZ col)).2.1 xv (sbZ S (ls.take r)) (List.replicate ns false):=
          ⟨_,_,_,_,vt,vl,(.slice AT xv.1.length cT),(.slice AL xv.2.length cL),_,_,vals,fv,hs11,hst11.oc,hst11.os,far (eZ HOT9.out (fun y hy=>hbb.block y (World.ownsRow.lt HOT9.out y hy).2)) (by decide),far (eZ HOL9.out (fun y hy=>hbb.block y (World.ownsRow.lt HOL9.out y hy).2)) (by decide),⟨far (lZ hix.t (by show _<=w9.heap.size;omega)) (by decide),far (lZ hix.l (by show _<=w9.heap.size;omega)) (by decide),fun i v ids hv hi=>far (lZ (hix.r i v ids hv hi) (by show _<=w9.heap.size;omega)) (by decide)⟩,hst11.fr,hst11.oa⟩
         have HB11:Hid (Below w.heap.size w ((w10.setCell ⟨gb,6,none⟩ (.slice AT xv.1.length cT)).setCell ⟨gb,7,none⟩ (.slice AL xv.2.length cL))):=fZ (by show _<=gb;omega) (fZ (by show _<=gb;omega) (HB9.out.trans (hbb.mono (by omega))))
         have HBO:=hid hB11
         clear hb9 hs11 hk11 hst11 far hB11 hs10 hix hb10 hbb k10 k11 m6 m7 n6 n7 k9 DLEN DPR HST9 HOB9 HOT9 HOL9 HO9
         generalize (w10.setCell ⟨gb,6,none⟩ (.slice AT xv.1.length cT)).setCell ⟨gb,7,none⟩ (.slice AL xv.2.length cL)=w11 at *
         by_cases hxe:xe=0
         ·subst hxe
          have HF:Hid (idZ o ls=0):=HO.out.symm.trans HOJ.out
          go_wp2_with fail
          go_ret2
          refine⟨HB11.out,fun h=>absurd HF.out h,fun _=>⟨gb,rfl,?_⟩⟩
          have h:=HBO.out
          rw[HNS.out]at h
          rw[show ls.take (pdZ ls)=ls.take r by rw[HRR.out],<-HDD.out,<-HCC.out,<-HSS.out,HBT.out]
          rw[show oN ls=N by rw[HNN.out,HCC.out,HDD.out];rfl,show bdZ ls=col by rw[HCOL.out,HSS.out,HPP.out,HDD.out,HRR.out];rfl,show yfZ ls=idx by rw[HIDX.out,HSS.out,HPP.out,HDD.out,HRR.out];rfl,<-HXI.out,<-HXX.out]
          exact h
         ·have gE:(xe != 0)=true:=by simpa using hxe
          have HF:Hid (O=xe):=HOJ.out
          have HNE:=hid hxe
          have HBX:=HB11
          clear hxe HOJ HBO
          go_wp2_with fail
          go_ret2
          exact riZ (HO.out.symm.trans HF.out) HNE.out HBX.out
       ·have gE:(ie != 0)=true:=by simpa using hie
        have HF:Hid (O=ie):=by have h:=HOI.out;rw[if_pos hie]at h;exact h
        have HNE:=hid hie
        have HBX:=HB9
        clear hie HOI HST9 HOB9 HOT9 HOL9 HO9
        go_wp2_with fail
        go_ret2
        exact riZ (HO.out.symm.trans HF.out) HNE.out HBX.out
      ·have gE:(cE != 0)=true:=by simpa using hce
       have HF:Hid (O=cE):=by have h:=HOC.out;rw[if_pos hce]at h;exact h
       have HNE:=hid hce
       have HBX:=HB8
       clear hce HOC hk8 hok8 HST HOB8
       go_wp2_with fail
       go_ret2
       exact riZ (HO.out.symm.trans HF.out) HNE.out HBX.out
    ·have gE:(de != 0)=true:=by simpa using hde
     have HF:Hid (O=de):=by have h:=HOD.out;rw[if_pos hde]at h;exact h
     have HNE:=hid hde
     have HBX:=HB5
     clear hde HOD hk5 hok5 DD HOB5 HOB4 HB4 HN5
     go_wp2_with fail
     go_ret2
     exact riZ (HO.out.symm.trans HF.out) HNE.out HBX.out
   ·have gE:(ce != 0)=true:=by simpa using hce
    have HF:Hid (O=ce):=by have h:=HOG.out;rw[if_pos hce]at h;exact h
    have HNE:=hid hce
    have HBX:=HB3
    clear hce HOG HOF HOB3 HOV
    go_wp2_with fail
    go_ret2
    exact riZ (HO.out.symm.trans HF.out) HNE.out HBX.out
 ·have gE:(oe != 0)=true:=by simpa using hoe
  have HF:Hid (O=oe):=by have h:=HOE.out;rw[if_pos hoe]at h;exact h
  have HNE:=hid hoe
  have HBX:=HB2
  clear hoe HOE HBU HOB2 D1
  go_wp2_with fail
  go_ret2
  exact riZ (HO.out.symm.trans HF.out) HNE.out HBX.out
end Go.Proofs.YtbgoibedicbkjaaGreatDoor.Body
namespace Go.Proofs.YtbgoibedicbkjaaGreatDoor.Body
open Go.RowKit Mem Own Canon Nums Crc Recs Opts
open Go.Proofs.YtbgoibedicbkjaaGreatDoor.Idx (Str zdZ jmZ ixF lsR)
open Go.Proofs.YtbgoibedicbkjaaGreatDoor.Ef (rowN ajZ efR efG rbZ)
theorem xqZ:∀ (k:Nat) (bs:List Nat) (at_ was:Nat) (acc:List Nat),(scZ k bs at_ was acc).2.2=0->(scZ k bs at_ was acc).1.length=acc.length+k
 |0,_,_,_,_,_=>rfl
 |k+1,bs,at_,was,acc,h=>by
  unfold scZ at h ⊢
  split at h
  ·rename_i he;exact absurd h he
  ·rename_i he
   rw[if_neg he,xqZ k _ _ _ _ h,List.length_append]
   simp;omega
theorem yoZ{n:Nat}{bs:List Nat}(h8:∀x∈bs,x<=255):∀ (f at_:Nat) (acc:List Nat),acc.length<=n->(mcZ f n bs at_ acc).1.length<=n
 |0,_,_,h=>h
 |f+1,at_,acc,h=>by
  unfold mcZ
  split
  ·exact h
  ·split
   ·exact Nat.zero_le _
   ·refine yoZ h8 f _ _ ?_
    rw[List.length_append,List.length_replicate]
    have h1:(kjZ (n-acc.length) bs at_).2.1<=n-acc.length:=qbZ h8 _ _
    omega
theorem efZb{n:Nat}{bs:List Nat}(h8:∀x∈bs,x<=255):(jbZ n bs).2.1.length<=n/\((jbZ n bs).2.2.2=0->(jbZ n bs).1.length=n):=by
 unfold jbZ viZ
 split
 ·rename_i he
  exact⟨Nat.zero_le _,fun h=>absurd h he⟩
 ·rename_i he
  have hl:(cgZ n bs (scZ n bs 0 0 [])).2.2=0:=Classical.byContradiction he
  refine⟨?_,fun _=> ?_⟩
  ·show(cgZ n bs (scZ n bs 0 0 [])).1.length<=n
   unfold cgZ
   split
   ·exact Nat.zero_le _
   ·exact yoZ h8 _ _ _ (Nat.zero_le _)
  ·have h:=xqZ n bs 0 0 [] (rwZ hl)
   simpa using h
theorem uwZ{bound W:Nat}{bs:List Bool}:∀ (xs:List Nat) (at_ high:Nat) (acc:List Nat),(rowN bound W bs xs at_ high acc).1.length<=acc.length+xs.length
 | [],_,_,_=>Nat.le_refl _
 |x :: xs,at_,high,acc=>by
  unfold rowN
  split
  ·exact Nat.zero_le _
  ·split
   ·exact Nat.zero_le _
   ·split
    ·exact Nat.zero_le _
    ·refine Nat.le_trans (uwZ xs _ _ _) ?_
     rw[List.length_append,List.length_cons]
     simp;omega
theorem kkZb{bound:Nat}{bs:List Nat}(h8:∀x∈bs,x<=255):(efR bound bs).1.length<=bound:=by
 have hv:tZ bound bs 0 0<=bound:=qbZ h8 _ _
 unfold efR
 split
 ·exact Nat.zero_le _
 ·split
  ·exact Nat.zero_le _
  ·unfold efG
   split
   ·exact Nat.zero_le _
   ·show(ajZ bound (tZ bound bs 0 0) _).1.length<=bound
    unfold ajZ
    split
    ·exact Nat.zero_le _
    ·split
     ·exact Nat.zero_le _
     ·split
      ·exact Nat.zero_le _
      ·refine Nat.le_trans (uwZ _ _ _ _) ?_
       rw[Ef.dkZ]
       simp;omega
theorem uzZ{bound:Nat}{ls:List Nat}(h8:∀x∈ls,x<=255):∀ (k at_:Nat) (acc:List (List Nat)),(∀l∈acc,l.length<=bound)->(lsR bound ls k at_ acc).1.length<=acc.length+k/\∀l∈(lsR bound ls k at_ acc).1,l.length<=bound
 |0,at_,acc,h=>by
  unfold lsR
  split
  ·exact⟨Nat.zero_le _,fun l hl=>by simp at hl⟩
  ·exact⟨Nat.le_refl _,h⟩
 |k+1,at_,acc,h=>by
  unfold lsR
  split
  ·exact⟨Nat.zero_le _,fun l hl=>by simp at hl⟩
  ·split
   ·exact⟨Nat.zero_le _,fun l hl=>by simp at hl⟩
   ·have h1:=uzZ h8 k (at_+(efR bound (ls.drop at_)).2.1) (acc++ [(efR bound (ls.drop at_)).1]) (fun l hl=>by
     rcases List.mem_append.1 hl with h2|h2
     ·exact h l h2
     ·rw[List.mem_singleton]at h2
      rw[h2]
      exact kkZb fun x hx=>h8 x (List.mem_of_mem_drop hx))
    rw[List.length_append]at h1
    exact⟨by have:=h1.1;simp at this;omega,h1.2⟩
theorem lkZb{size bound:Nat}{ls:List Nat}(h8:∀x∈ls,x<=255):(Idx.ixR size bound ls).1.1.length<=1048576/\(Idx.ixR size bound ls).1.2.length<=1048576/\∀l∈(Idx.ixR size bound ls).1.2,l.length<=bound:=by
 have hd:=(jmZ (size:=size) h8).2
 have hl:=uzZ (bound:=bound) (ls:=ls.drop (zdZ size ls).2.1) (fun x hx=>h8 x (List.mem_of_mem_drop hx)) (zdZ size ls).1.length 0 [] (fun l hl=>by simp at hl)
 unfold Idx.ixR
 split
 ·exact⟨Nat.zero_le _,Nat.zero_le _,fun l hl=>by simp at hl⟩
 ·unfold ixF
  split
  ·exact⟨Nat.zero_le _,Nat.zero_le _,fun l hl=>by simp at hl⟩
  ·exact⟨hd,by have:=hl.1;simp at this;exact Nat.le_trans this hd,hl.2⟩
theorem glZb{o:Opt}{ls:List Nat}(h8:∀x∈ls,x<=255)(h:idZ o ls=0):oN ls<=20000/\(kcZ (yZ ls)).length<=20000/\(qcZ (yZ ls)).length=(kcZ (yZ ls)).length/\(∀x∈kcZ (yZ ls),x<=20000)/\(jbZ (oN ls) (xZ (bdZ ls))).1.length=oN ls/\(jbZ (oN ls) (xZ (bdZ ls))).2.1.length<=oN ls:=by
 have hd8:∀x∈yZ ls,x<=255:=tgZ (fun x hx=>by unfold fdZ at hx;exact h8 x (List.mem_of_mem_drop (List.mem_of_mem_take hx)))
 have hc8:∀x∈xZ (bdZ ls),x<=255:=tgZ (fun x hx=>by unfold bdZ at hx;exact h8 x (List.mem_of_mem_take (List.mem_of_mem_drop (List.mem_of_mem_take hx))))
 have hrec:gdZ (yZ ls)<=20000:=qbZ hd8 _ _
 have hblk:xgZ (yZ ls)<=20000:=Nat.le_trans (qbZ hd8 _ _) hrec
 have hpl:=emZ (rec:=gdZ (yZ ls)) (ls:=yZ ls) (xgZ (yZ ls)) (pZ (gdZ (yZ ls)) (yZ ls) (pZ 20000 (yZ ls) 0 0) (qZ 20000 (yZ ls) 0 0)) (qZ (gdZ (yZ ls)) (yZ ls) (pZ 20000 (yZ ls) 0 0) (qZ 20000 (yZ ls) 0 0)) [] [] rfl
 have hpb:=qrZ (rec:=gdZ (yZ ls)) hd8 (xgZ (yZ ls)) (pZ (gdZ (yZ ls)) (yZ ls) (pZ 20000 (yZ ls) 0 0) (qZ 20000 (yZ ls) 0 0)) (qZ (gdZ (yZ ls)) (yZ ls) (pZ 20000 (yZ ls) 0 0) (qZ 20000 (yZ ls) 0 0)) [] [] (fun x hx=>by simp at hx) (fun x hx=>by simp at hx)
 have h1:bsZ o ls=0:=by
  unfold idZ at h
  split at h
  ·rename_i he;exact absurd h he
  ·exact h
 have h2:asZ o ls=0:=by
  unfold bsZ at h1
  split at h1
  ·cases h1
  ·split at h1
   ·rename_i he;exact absurd h1 he
   ·exact h1
 have h3:jhZ (pdZ ls) (yZ ls)=0/\zrZ o ls=0:=by
  unfold asZ at h2
  split at h2
  ·rename_i he;exact absurd h2 he
  ·rename_i he;exact⟨Classical.byContradiction he,h2⟩
 have h4:tkZ (oN ls) (bdZ ls)=0:=by
  have h5:=h3.2
  unfold zrZ at h5
  split at h5
  ·rename_i he;exact absurd h5 he
  ·rename_i he;exact Classical.byContradiction he
 have h6:(jbZ (oN ls) (xZ (bdZ ls))).2.2.2=0:=by
  unfold tkZ at h4
  split at h4
  ·rename_i he;exact absurd h4 he
  ·split at h4
   ·rename_i he;exact absurd h4 he
   ·rename_i he;exact Classical.byContradiction he
 have hk:=zeZb h3.1
 have hcl:=efZb (n:=oN ls) hc8
 have h7:(kcZ (yZ ls)).length<=0+xgZ (yZ ls):=hpl.2.1
 exact⟨by unfold oN;rw[hk.2.1];exact hrec,by omega,hpl.1.symm,fun x hx=>Nat.le_trans (hpb.1 x hx) hrec,hcl.2 h6,hcl.1⟩
end Go.Proofs.YtbgoibedicbkjaaGreatDoor.Body
