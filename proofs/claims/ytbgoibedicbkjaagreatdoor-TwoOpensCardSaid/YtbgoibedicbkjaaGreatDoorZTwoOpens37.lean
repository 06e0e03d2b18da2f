/- The law BodyOpens. (By program: gen/bodyopens.py.) The law TwoOpens. ( -/
import Derived.Test.YtbgoibedicbkjaaGreatDoorZTwoOpens25
import Derived.Test.YtbgoibedicbkjaaGreatDoorZTwoOpens30
import Derived.Test.YtbgoibedicbkjaaGreatDoorZTwoOpens35
import Derived.Test.YtbgoibedicbkjaaGreatDoorZTwoOpens21
import Derived.Test.YtbgoibedicbkjaaGreatDoorZTwoOpens14
import Derived.Test.YtbgoibedicbkjaaGreatDoorZTwoOpens31
import Derived.Test.YtbgoibedicbkjaaGreatDoorZTwoOpens36
namespace Go.Proofs.YtbgoibedicbkjaaGreatDoor end Go.Proofs.YtbgoibedicbkjaaGreatDoor open Go.Proofs.YtbgoibedicbkjaaGreatDoor
open Go.Lib (hid)
set_option maxRecDepth 100000
namespace Go.Proofs.YtbgoibedicbkjaaGreatDoor.Body
open Go.RowKit Mem Go.Proofs.YtbgoibedicbkjaaGreatDoor.Own Canon Nums Recs Opts
open Go.Proofs.YtbgoibedicbkjaaGreatDoor.Crc (TabAt xZ icZ)
open Go.Proofs.YtbgoibedicbkjaaGreatDoor.Open (ukZ)
open Go.Proofs.YtbgoibedicbkjaaGreatDoor.Idx (Str IxAt nmZ omZ xnZ)
open Go.Proofs.YtbgoibedicbkjaaGreatDoor.Huff (qhZ)
theorem ywZ{w:World}{base n c:Nat}{A:Option Addr}{ids:List Nat}(h:w.ownsRow base 3 1 (.slice A n c) n (cZ .i64 ids))(hn:ids.length=n):Row w w.heap.size A n 1 (ukZ .i64 (ids.map Int.ofNat)):=Idx.own_ints h hn
end Go.Proofs.YtbgoibedicbkjaaGreatDoor.Body
namespace Go.Proofs.YtbgoibedicbkjaaGreatDoor.Body
open Go.RowKit Mem Go.Proofs.YtbgoibedicbkjaaGreatDoor.Own Canon Nums Recs Opts
open Go.Proofs.YtbgoibedicbkjaaGreatDoor.Crc (TabAt xZ icZ)
open Go.Proofs.YtbgoibedicbkjaaGreatDoor.Open (ukZ)
open Go.Proofs.YtbgoibedicbkjaaGreatDoor.Idx (Str IxAt nmZ omZ xnZ)
open Go.Proofs.YtbgoibedicbkjaaGreatDoor.Huff (qhZ)
theorem nkZb{ls:List Nat}(h:ngZ ls=0):idZ (tO ls) (tB ls)=0:=by
 rw[csZ]at h
 split at h
 ·rename_i h1;exact absurd h h1
 ·split at h
  ·cases h
  ·split at h
   ·rename_i h1;exact absurd h h1
   ·exact h
set_option maxHeartbeats 4000000 in
theorem vbZb(w:World)(A:Option Addr)(n c:Nat)(ls:List Nat)(hn:ls.length=n)(hle:n<=1500)(hc:n<=c)(h8:∀x∈ls,x<=255)(hnil:A=none->n=0/\c=0)(ht:TabAt w)(ha:Row w w.heap.size A n 1 (mZ .u8 ls)):
 Calls Tryz.prog 3 #[.slice A n c] w fun e w'=>e= .returned (.bool true)/\Below w.heap.size w w':=by
 have D0:=hid (fun wx (hb:Below w.heap.size w wx)=>Two.mwZ wx (ht.step hb))
 have D1:=hid (fun wx (hb:Below w.heap.size w wx)=>tiZb wx A n c ls hn (by omega) hc h8 hnil (ht.step hb) ((ha.below hb).mono hb.size))
 have D2:=hid (fun wx (hb:Below w.heap.size w wx)=>nfZb wx A n c ls hn (by omega) hc h8 hnil ((ha.below hb).mono hb.size))
 have gl:decide ((1500:Int)<(n:Int))=false:=by simp;omega
 have gl':decide (1500<n)=false:=by simp;omega
 have hB8:∀x∈tB ls,x<=255:=fun x hx=>h8 x (List.mem_of_mem_drop hx)
 have HOK:Hid (ngZ ls=0->oN (tB ls)<=20000/\(kcZ (yZ (tB ls))).length<=20000/\(qcZ (yZ (tB ls))).length=(kcZ (yZ (tB ls))).length/\(∀x∈kcZ (yZ (tB ls)),x<=20000)/\(jbZ (oN (tB ls)) (xZ (bdZ (tB ls)))).1.length=oN (tB ls)/\(jbZ (oN (tB ls)) (xZ (bdZ (tB ls)))).2.1.length<=oN (tB ls)):=fun h=>glZb (o:=tO ls) hB8 (nkZb h)
 have HSM:Hid (oN (tB ls)=(kcZ (yZ (tB ls))).sum):=rfl
 have HX:=hid (lkZb (size:=(tO ls).bucket.toNat) (bound:=oN (tB ls)) (ls:=xZ (yfZ (tB ls))) (tgZ (fun x hx=>by unfold yfZ at hx;exact hB8 x (List.mem_of_mem_take (List.mem_of_mem_drop hx)))))
 unfold aqZ at D1
 unfold nnZ at D2
 generalize Idx.ixR (tO ls).bucket.toNat (oN (tB ls)) (xZ (yfZ (tB ls)))=X at *
 rw[show(tO ls).val= .agg #[.int .i64 (tS ls:Nat), .bool (decide (tP ls=1)), .int .i64 (tK ls:Nat), .int .i64 0, .int .i64 0, .int .i64 0] from rfl]at D1 D2
 generalize tS ls=S at *
 generalize decide (tP ls=1)=pb at *
 generalize tK ls=K at *
 generalize ngZ ls=E at *
 generalize (jbZ (oN (tB ls)) (xZ (bdZ (tB ls)))).1=T at *
 generalize (jbZ (oN (tB ls)) (xZ (bdZ (tB ls)))).2.1=L at *
 generalize kcZ (yZ (tB ls))=C at *
 generalize sbZ (qcZ (yZ (tB ls))) ((tB ls).take (pdZ (tB ls)))=F at *
 generalize qcZ (yZ (tB ls))=SZ at *
 generalize oN (tB ls)=N at *
 clear ha hnil h8 hn ht hB8
 go_enter Tryz.func3,Tryz.ntmps3
 go_wp2_with fail
 refine(D0.out w (Below.refl _ _)).mono ?_
 rintro e w1 ⟨rfl,hb1⟩
 have D1:=hid (D1.out w1 hb1)
 have HB1:=hid hb1
 clear hb1 D0
 go_wp2_with fail
 refine D1.out.mono ?_
 rintro e w2 ⟨hb2,hbad,hok⟩
 have HB2:Hid (Below w.heap.size w w2):=HB1.out.trans (hb2.mono HB1.out.size)
 clear D1 HB1
 by_cases hE:E=0
 ·subst hE
  obtain⟨gb,rfl,hba⟩:=hok (by first|trivial|rfl)
  have hz12:=hb2.size
  clear hbad hok hb2
  rw[if_pos (show(0:Int)=0 from rfl)]at D2
  go_wp2_with fail
  have hxb:Blk (w2.alloc (.cells #[.int .i64 (S:Nat), .bool pb, .int .i64 (K:Nat), .int .i64 0, .int .i64 0, .int .i64 0] 25)) w2.heap.size 25 #[.int .i64 (S:Nat), .bool pb, .int .i64 (K:Nat), .int .i64 0, .int .i64 0, .int .i64 0]:=Blk.made _ _ _
  have hb3:Below w2.heap.size w2 (w2.alloc (.cells #[.int .i64 (S:Nat), .bool pb, .int .i64 (K:Nat), .int .i64 0, .int .i64 0, .int .i64 0] 25)):=aZ (Below.refl _ _)
  have hz3:w2.heap.size<(w2.alloc (.cells #[.int .i64 (S:Nat), .bool pb, .int .i64 (K:Nat), .int .i64 0, .int .i64 0, .int .i64 0] 25)).heap.size:=by simp
  generalize w2.alloc (.cells #[.int .i64 (S:Nat), .bool pb, .int .i64 (K:Nat), .int .i64 0, .int .i64 0, .int .i64 0] 25)=w3 at *
  have HB3:Hid (Below w.heap.size w w3):=HB2.out.trans (hb3.mono HB2.out.size)
  have hba3:=hba.step hb3
  have HXB:=hid hxb
  have D2:=hid (D2.out w3 HB3.out)
  clear hb3 hxb HB2 hba
  generalize w2.heap.size=xb at *
  refine D2.out.mono ?_
  rintro e w4 ⟨hb4,v,rfl,hrz,hrb⟩
  obtain⟨sz,hsz,vc',vf',vt',vl',vT',vL',vals',fv',rfl,j1,j2,j3,j4,j5,j6⟩:=hrb (by first|trivial|rfl)
  obtain⟨okN,okC,okS,okx,okT,okL⟩:=HOK.out (by first|trivial|rfl)
  obtain⟨x1,x2,x3⟩:=HX.out
  have hsum:=HSM.out
  obtain⟨kc,hkc⟩:∃x,x=C.length:=⟨_,rfl⟩
  obtain⟨nf,hnf⟩:∃x,x=F.length:=⟨_,rfl⟩
  obtain⟨nt,hnt⟩:∃x,x=T.length:=⟨_,rfl⟩
  obtain⟨nl,hnl⟩:∃x,x=L.length:=⟨_,rfl⟩
  obtain⟨n1,hn1⟩:∃x,x=X.1.1.length:=⟨_,rfl⟩
  obtain⟨n2,hn2⟩:∃x,x=X.1.2.length:=⟨_,rfl⟩
  have j6t:=j6.t
  have j6l:=j6.l
  rw[<-hkc]at j1
  rw[<-hnf]at j2
  rw[<-hnt]at j4
  rw[<-hnl]at j5
  rw[<-hn1]at j6t
  rw[<-hn2]at j6l
  obtain⟨Bc,dc,rfl⟩:=bZ j1
  obtain⟨Bf,df,rfl⟩:=bZ j2
  obtain⟨Bt,dt,rfl⟩:=bZ j4
  obtain⟨Bl,dl,rfl⟩:=bZ j5
  obtain⟨BT,dT,rfl⟩:=bZ j6t
  obtain⟨BL,dL,rfl⟩:=bZ j6l
  have hba4:=hba3.step hb4
  have HB4:Hid (Below w.heap.size w w4):=HB3.out.trans (hb4.mono HB3.out.size)
  have HXB4:=hid (HXB.out.step hb4)
  have okn:nt=N:=by rw[hnt];exact okT
  have okc:kc<=20000:=by rw[hkc];exact okC
  have HKC:=hid hkc
  have HSN:Hid (C.sum=nt):=by show _=_;rw[<-hsum];exact okn.symm
  have okn2:nt<=20000:=by omega
  have hX1:X.1.1.length<=1100000:=by omega
  have hX2:X.1.2.length<=1100000:=by omega
  have hX3:∀l∈X.1.2,l.length<=1100000:=fun l hl=>by have:=x3 l hl;omega
  have HHX:=hid (And.intro hX1 (And.intro hX2 hX3))
  have HE:=hrZ pb pb (S:Nat) (S:Nat) (K:Nat) (K:Nat) 0 0 0 0 0 0
  have hd:decide (((S:Nat):Int)=(S:Nat)/\pb=pb/\((K:Nat):Int)=(K:Nat)/\(0:Int)=0/\(0:Int)=0/\(0:Int)=0)=true:=decide_eq_true ⟨rfl,rfl,rfl,rfl,rfl,rfl⟩
  rw[hd]at HE
  clear hb4 hrz hrb j6t j6l okN okC okS okx okT okL x1 x2 x3 hsum okn hkc hnf hnt hnl hn1 hn2 D2 HOK HX HSM hX1 hX2 hX3 hba3 HXB hd hsz
  go_wp2_with fail
  have hzb:Blk (((w4.alloc (.cells #[.int .i64 (S:Nat), .bool pb, .int .i64 (K:Nat), .int .i64 0, .int .i64 0, .int .i64 0] 25)).alloc (.cells #[.slice Bc kc dc, .slice Bf nf df, .slice Bt nt dt, .slice Bl nl dl, .slice BT n1 dT, .slice BL n2 dL] 38))) w4.heap.size 25 #[.int .i64 (S:Nat), .bool pb, .int .i64 (K:Nat), .int .i64 0, .int .i64 0, .int .i64 0]:=(Blk.made _ _ _).alloc _
  have hyb:Blk (((w4.alloc (.cells #[.int .i64 (S:Nat), .bool pb, .int .i64 (K:Nat), .int .i64 0, .int .i64 0, .int .i64 0] 25)).alloc (.cells #[.slice Bc kc dc, .slice Bf nf df, .slice Bt nt dt, .slice Bl nl dl, .slice BT n1 dT, .slice BL n2 dL] 38))) (w4.heap.size+1) 38 #[.slice Bc kc dc, .slice Bf nf df, .slice Bt nt dt, .slice Bl nl dl, .slice BT n1 dT, .slice BL n2 dL]:=Blk.made_at _ _ _ (by simp)
  have hb5:Below w4.heap.size w4 (((w4.alloc (.cells #[.int .i64 (S:Nat), .bool pb, .int .i64 (K:Nat), .int .i64 0, .int .i64 0, .int .i64 0] 25)).alloc (.cells #[.slice Bc kc dc, .slice Bf nf df, .slice Bt nt dt, .slice Bl nl dl, .slice BT n1 dT, .slice BL n2 dL] 38))):=by(repeat(first|(with_reducible first|exact Below.refl _ _|assumption|refine Below.drew ?_|refine below_drewN ?_ _|refine aZ ?_|refine dZ (by assumption) ?_)|((with_reducible first|refine fZ ?_ ?_|refine gZ ?_ ?_|refine iZ (by assumption) ?_ ?_);(focus(first|(simp;done)|(simp;omega)|omega|(simp at *;omega))))))
  generalize ((w4.alloc (.cells #[.int .i64 (S:Nat), .bool pb, .int .i64 (K:Nat), .int .i64 0, .int .i64 0, .int .i64 0] 25)).alloc (.cells #[.slice Bc kc dc, .slice Bf nf df, .slice Bt nt dt, .slice Bl nl dl, .slice BT n1 dT, .slice BL n2 dL] 38))=w5 at *
  have HB5:Hid (Below w.heap.size w w5):=HB4.out.trans (hb5.mono HB4.out.size)
  have HB45:=hid hb5
  have HZB:=hid hzb
  have HYB:=hid hyb
  have HXB:Hid (Blk w5 xb 25 #[.int .i64 (S:Nat), .bool pb, .int .i64 (K:Nat), .int .i64 0, .int .i64 0, .int .i64 0]):=HXB4.out.step hb5
  clear hb5 hzb hyb HXB4
  obtain⟨zb,hzbe⟩:∃zb,zb=w4.heap.size:=⟨_,rfl⟩
  rw[<-hzbe]at HZB HYB ⊢
  clear hzbe
  generalize zb+1=yb at *
  have hba5:=hba4.step HB45.out
  have far:∀ {b n:Nat} {e:TypeId} {v:Value} {xs:List Value},w4.ownsRow b e 1 v n xs->w5.ownsRow b e 1 v n xs:=fun ho=>eZ ho fun y hy=>HB45.out.block y (World.ownsRow.lt ho y hy).2
  have J1:=hid (far j1)
  have J6:Hid (IxAt w5 w3.heap.size (.slice BT n1 dT) (.slice BL n2 dL) vals' X.1.1 X.1.2):=⟨far j6.t,far j6.l,fun i v ids hv hi=>far (j6.r i v ids hv hi)⟩
  obtain⟨vc,vs,p,q,vt,vl,vT,vL,vF,va,vals,fv,h0,h1,h2,h3,h4,h5,h6,h7⟩:=hba5
  rw[<-HKC.out]at h1
  obtain⟨Ac,cc,rfl⟩:=bZ h1
  have hbk:∀ {wx:World} {b n:Nat} {e:TypeId} {v:Value} {xs:List Value},Below w5.heap.size w5 wx->w5.ownsRow b e 1 v n xs->wx.ownsRow b e 1 v n xs:=fun hb ho=>eZ ho fun y hy=>hb.block y (World.ownsRow.lt ho y hy).2
  have hbx:∀ {wx:World} {b:Nat} {v1 v2:Value} {vs:List Value},Below w5.heap.size w5 wx->IxAt w5 b v1 v2 vs X.1.1 X.1.2->IxAt wx b v1 v2 vs X.1.1 X.1.2:=fun hb h=>⟨hbk hb h.t,hbk hb h.l,fun i v ids hv hi=>hbk hb (h.r i v ids hv hi)⟩
  have hx1w:w1.heap.size<=w5.heap.size:=by have:=HXB.out.lt;omega
  have CBl:=hid (fun wx (hb:Below w5.heap.size w5 wx)=>lxZ wx gb w1.heap.size kc cc Ac (cZ .i64 C) ((h0.step hb).cell 0) (by omega) (hbk hb h1) (wZ _ _))
  have CSI:Hid (∀ (wx:World) (Ax:Option Addr) (cx b:Nat),Below w5.heap.size w5 wx->wx.ownsRow b 3 1 (.slice Ax kc cx) kc (cZ .i64 C)->Calls Tryz.prog 11 #[.slice Ax kc cx, .slice Bc kc dc] wx fun e w'=>e= .returned (.bool true)/\∃q,w'=wx.drewN q):=fun wx Ax cx b hb ho=>qhZ wx Ax Bc kc cx dc wx.heap.size wx.heap.size (C.map Int.ofNat) (by rw[List.length_map];exact HKC.out.symm) (by omega) (ywZ ho HKC.out.symm) (ywZ (hbk hb J1.out) HKC.out.symm)
  have CIx:Hid (∀wx,Below w5.heap.size w5 wx->Calls Tryz.prog 14 #[.pointer (some ⟨gb,0,none⟩)] wx fun e w'=>∃vT vL vals,e= .returned (.agg #[vT,vL])/\IxAt w' wx.heap.size vT vL vals X.1.1 X.1.2/\Below wx.heap.size wx w'):=fun wx hb=>nmZ wx gb w1.heap.size vT vL vals X.1.1 X.1.2 ((h0.step hb).cell 6) ((h0.step hb).cell 7) (hbx hb h5) HHX.out.1 HHX.out.2.1 HHX.out.2.2 (h0.step hb).lt
  have CSX:Hid (∀ (wx:World) (v1 v2:Value) (vsx:List Value) (b:Nat),Below w5.heap.size w5 wx->IxAt wx b v1 v2 vsx X.1.1 X.1.2->Calls Tryz.prog 13 #[.agg #[v1,v2], .agg #[.slice BT n1 dT, .slice BL n2 dL]] wx fun e w'=>e= .returned (.bool true)/\Below wx.heap.size wx w'):=fun wx v1 v2 vsx b hb h=>omZ wx b w3.heap.size v1 v2 (.slice BT n1 dT) (.slice BL n2 dL) vsx vals' X.1.1 X.1.2 h (hbx hb J6.out) (Nat.le_trans HHX.out.1 (by decide)) (Nat.le_trans HHX.out.2.1 (by decide)) (fun l hl=>Nat.le_trans (HHX.out.2.2 l hl) (by decide))
  have HS:Hid (∀wx,Below w5.heap.size w5 wx->wx.cell? ⟨xb,0,none⟩=some (.int .i64 (S:Nat))/\wx.cell? ⟨xb,1,none⟩=some (.bool pb)/\wx.cell? ⟨xb,2,none⟩=some (.int .i64 (K:Nat))/\wx.cell? ⟨xb,3,none⟩=some (.int .i64 0)/\wx.cell? ⟨xb,4,none⟩=some (.int .i64 0)/\wx.cell? ⟨xb,5,none⟩=some (.int .i64 0)/\wx.cell? ⟨zb,0,none⟩=some (.int .i64 (S:Nat))/\wx.cell? ⟨zb,1,none⟩=some (.bool pb)/\wx.cell? ⟨zb,2,none⟩=some (.int .i64 (K:Nat))/\wx.cell? ⟨zb,3,none⟩=some (.int .i64 0)/\wx.cell? ⟨zb,4,none⟩=some (.int .i64 0)/\wx.cell? ⟨zb,5,none⟩=some (.int .i64 0)/\wx.cell? ⟨yb,0,none⟩=some (.slice Bc kc dc)/\wx.cell? ⟨yb,4,none⟩=some (.slice BT n1 dT)/\wx.cell? ⟨yb,5,none⟩=some (.slice BL n2 dL)):=fun wx hb=>⟨(HXB.out.step hb).cell 0,(HXB.out.step hb).cell 1,(HXB.out.step hb).cell 2,(HXB.out.step hb).cell 3,(HXB.out.step hb).cell 4,(HXB.out.step hb).cell 5,(HZB.out.step hb).cell 0,(HZB.out.step hb).cell 1,(HZB.out.step hb).cell 2,(HZB.out.step hb).cell 3,(HZB.out.step hb).cell 4,(HZB.out.step hb).cell 5,(HYB.out.step hb).cell 0,(HYB.out.step hb).cell 4,(HYB.out.step hb).cell 5⟩
  clear hba4 j1 j2 j3 j4 j5 j6 far h0 h1 h2 h3 h4 h5 h6 h7 hbk hbx HHX J6 J1 HSN HKC HZB HYB HXB HB45 HB4 HB3 hx1w okc okn2
  go_region_held3 (fun wx=>wx.cell? ⟨xb,0,none⟩=some (.int .i64 (S:Nat))/\wx.cell? ⟨xb,1,none⟩=some (.bool pb)/\wx.cell? ⟨xb,2,none⟩=some (.int .i64 (K:Nat))/\wx.cell? ⟨xb,3,none⟩=some (.int .i64 0)/\wx.cell? ⟨xb,4,none⟩=some (.int .i64 0)/\wx.cell? ⟨xb,5,none⟩=some (.int .i64 0)/\wx.cell? ⟨zb,0,none⟩=some (.int .i64 (S:Nat))/\wx.cell? ⟨zb,1,none⟩=some (.bool pb)/\wx.cell? ⟨zb,2,none⟩=some (.int .i64 (K:Nat))/\wx.cell? ⟨zb,3,none⟩=some (.int .i64 0)/\wx.cell? ⟨zb,4,none⟩=some (.int .i64 0)/\wx.cell? ⟨zb,5,none⟩=some (.int .i64 0)/\wx.cell? ⟨yb,0,none⟩=some (.slice Bc kc dc)/\wx.cell? ⟨yb,4,none⟩=some (.slice BT n1 dT)/\wx.cell? ⟨yb,5,none⟩=some (.slice BL n2 dL)) (exact HS.out _ (by(repeat(first|(with_reducible first|exact Below.refl _ _|assumption|refine Below.drew ?_|refine below_drewN ?_ _|refine aZ ?_|refine dZ (by assumption) ?_)|((with_reducible first|refine fZ ?_ ?_|refine gZ ?_ ?_|refine iZ (by assumption) ?_ ?_);(focus(first|(simp;done)|(simp;omega)|omega|(simp at *;omega)))))))) (first|(go_at_call 12;(with_reducible refine(CBl.out _ (by(repeat(first|(with_reducible first|exact Below.refl _ _|assumption|refine Below.drew ?_|refine below_drewN ?_ _|refine aZ ?_|refine dZ (by assumption) ?_)|((with_reducible first|refine fZ ?_ ?_|refine gZ ?_ ?_|refine iZ (by assumption) ?_ ?_);(focus(first|(simp;done)|(simp;omega)|omega|(simp at *;omega)))))))).mono ?_);rintro e wB ⟨vB,rfl,hoB,hbB⟩;obtain⟨AB,cB,rfl⟩:=bZ hoB;have BB:Below w5.heap.size w5 wB:=dZ hbB (by(repeat(first|(with_reducible first|exact Below.refl _ _|assumption|refine Below.drew ?_|refine below_drewN ?_ _|refine aZ ?_|refine dZ (by assumption) ?_)|((with_reducible first|refine fZ ?_ ?_|refine gZ ?_ ?_|refine iZ (by assumption) ?_ ?_);(focus(first|(simp;done)|(simp;omega)|omega|(simp at *;omega))))))))|(go_at_call 11;(with_reducible refine(CSI.out _ _ _ _ (by(repeat(first|(with_reducible first|exact Below.refl _ _|assumption|refine Below.drew ?_|refine below_drewN ?_ _|refine aZ ?_|refine dZ (by assumption) ?_)|((with_reducible first|refine fZ ?_ ?_|refine gZ ?_ ?_|refine iZ (by assumption) ?_ ?_);(focus(first|(simp;done)|(simp;omega)|omega|(simp at *;omega))))))) (by first|exact hoB|exact eZ hoB (fun y _=>rfl))).mono ?_);rintro e wC ⟨rfl,qC,rfl⟩)|(go_at_call 14;(with_reducible refine(CIx.out _ (by(repeat(first|(with_reducible first|exact Below.refl _ _|assumption|refine Below.drew ?_|refine below_drewN ?_ _|refine aZ ?_|refine dZ (by assumption) ?_)|((with_reducible first|refine fZ ?_ ?_|refine gZ ?_ ?_|refine iZ (by assumption) ?_ ?_);(focus(first|(simp;done)|(simp;omega)|omega|(simp at *;omega)))))))).mono ?_);rintro e wF ⟨v1,v2,vsx,rfl,hixF,hbF⟩;have BF:Below w5.heap.size w5 wF:=dZ hbF (by(repeat(first|(with_reducible first|exact Below.refl _ _|assumption|refine Below.drew ?_|refine below_drewN ?_ _|refine aZ ?_|refine dZ (by assumption) ?_)|((with_reducible first|refine fZ ?_ ?_|refine gZ ?_ ?_|refine iZ (by assumption) ?_ ?_);(focus(first|(simp;done)|(simp;omega)|omega|(simp at *;omega))))))))|(go_at_call 13;(with_reducible refine(CSX.out _ _ _ _ _ (by(repeat(first|(with_reducible first|exact Below.refl _ _|assumption|refine Below.drew ?_|refine below_drewN ?_ _|refine aZ ?_|refine dZ (by assumption) ?_)|((with_reducible first|refine fZ ?_ ?_|refine gZ ?_ ?_|refine iZ (by assumption) ?_ ?_);(focus(first|(simp;done)|(simp;omega)|omega|(simp at *;omega))))))) (by exact hixF)).mono ?_);rintro e wG ⟨rfl,hbG⟩;have BG:Below w5.heap.size w5 wG:=dZ hbG (by(repeat(first|(with_reducible first|exact Below.refl _ _|assumption|refine Below.drew ?_|refine below_drewN ?_ _|refine aZ ?_|refine dZ (by assumption) ?_)|((with_reducible first|refine fZ ?_ ?_|refine gZ ?_ ?_|refine iZ (by assumption) ?_ ?_);(focus(first|(simp;done)|(simp;omega)|omega|(simp at *;omega)))))))))
  all_goals
   have HBG:Hid (Below w.heap.size w wG):=HB5.out.trans (BG.mono HB5.out.size)
   clear BB hoB hbB hixF BF hbF hbG BG CBl CSI CIx CSX HE
   go_wp2_with fail
   go_ret
   exact⟨rfl,HBG.out⟩
 ·have hE':=hbad hE
  subst hE'
  have gE:(E != 0)=true:=by simpa using hE
  have gE2:(E==E)=true:=by simp
  have HNE:=hid hE
  clear hbad hok hb2 hE HOK HSM HX
  go_wp2_with fail
  have hxb:Blk (w2.alloc (.cells #[.int .i64 0, .bool false, .int .i64 0, .int .i64 0, .int .i64 0, .int .i64 0] 25)) w2.heap.size 25 #[.int .i64 0, .bool false, .int .i64 0, .int .i64 0, .int .i64 0, .int .i64 0]:=Blk.made _ _ _
  have hb3:Below w2.heap.size w2 (w2.alloc (.cells #[.int .i64 0, .bool false, .int .i64 0, .int .i64 0, .int .i64 0, .int .i64 0] 25)):=aZ (Below.refl _ _)
  generalize w2.alloc (.cells #[.int .i64 0, .bool false, .int .i64 0, .int .i64 0, .int .i64 0, .int .i64 0] 25)=w3 at *
  have HB3:Hid (Below w.heap.size w w3):=HB2.out.trans (hb3.mono HB2.out.size)
  have HXB:=hid hxb
  have D2:=hid (D2.out w3 HB3.out)
  rw[if_neg HNE.out]at D2
  clear hb3 hxb HB2
  generalize w2.heap.size=xb at *
  refine D2.out.mono ?_
  rintro e w4 ⟨hb4,v,rfl,hrz,hrb⟩
  obtain rfl:=hrz HNE.out
  have HB4:Hid (Below w.heap.size w w4):=HB3.out.trans (hb4.mono HB3.out.size)
  have HXB4:=hid (HXB.out.step hb4)
  have HE:=hrZ false false 0 0 0 0 0 0 0 0 0 0
  have hd:decide ((0:Int)=0/\false=false/\(0:Int)=0/\(0:Int)=0/\(0:Int)=0/\(0:Int)=0)=true:=by decide
  rw[hd]at HE
  clear hb4 hrz hrb D2 HXB hd
  go_wp2_with fail
  have hzb:Blk (((w4.alloc (.cells #[.int .i64 0, .bool false, .int .i64 0, .int .i64 0, .int .i64 0, .int .i64 0] 25)).alloc (.cells #[.slice none 0 0, .slice none 0 0, .slice none 0 0, .slice none 0 0, .slice none 0 0, .slice none 0 0] 38))) w4.heap.size 25 #[.int .i64 0, .bool false, .int .i64 0, .int .i64 0, .int .i64 0, .int .i64 0]:=(Blk.made _ _ _).alloc _
  have hyb:Blk (((w4.alloc (.cells #[.int .i64 0, .bool false, .int .i64 0, .int .i64 0, .int .i64 0, .int .i64 0] 25)).alloc (.cells #[.slice none 0 0, .slice none 0 0, .slice none 0 0, .slice none 0 0, .slice none 0 0, .slice none 0 0] 38))) (w4.heap.size+1) 38 #[.slice none 0 0, .slice none 0 0, .slice none 0 0, .slice none 0 0, .slice none 0 0, .slice none 0 0]:=Blk.made_at _ _ _ (by simp)
  have hb5:Below w4.heap.size w4 (((w4.alloc (.cells #[.int .i64 0, .bool false, .int .i64 0, .int .i64 0, .int .i64 0, .int .i64 0] 25)).alloc (.cells #[.slice none 0 0, .slice none 0 0, .slice none 0 0, .slice none 0 0, .slice none 0 0, .slice none 0 0] 38))):=by(repeat(first|(with_reducible first|exact Below.refl _ _|assumption|refine Below.drew ?_|refine below_drewN ?_ _|refine aZ ?_|refine dZ (by assumption) ?_)|((with_reducible first|refine fZ ?_ ?_|refine gZ ?_ ?_|refine iZ (by assumption) ?_ ?_);(focus(first|(simp;done)|(simp;omega)|omega|(simp at *;omega))))))
  generalize ((w4.alloc (.cells #[.int .i64 0, .bool false, .int .i64 0, .int .i64 0, .int .i64 0, .int .i64 0] 25)).alloc (.cells #[.slice none 0 0, .slice none 0 0, .slice none 0 0, .slice none 0 0, .slice none 0 0, .slice none 0 0] 38))=w5 at *
  have HB5:Hid (Below w.heap.size w w5):=HB4.out.trans (hb5.mono HB4.out.size)
  have HB45:=hid hb5
  have HZB:=hid hzb
  have HYB:=hid hyb
  have HXB:Hid (Blk w5 xb 25 #[.int .i64 0, .bool false, .int .i64 0, .int .i64 0, .int .i64 0, .int .i64 0]):=HXB4.out.step hb5
  clear hb5 hzb hyb HXB4
  obtain⟨zb,hzbe⟩:∃zb,zb=w4.heap.size:=⟨_,rfl⟩
  rw[<-hzbe]at HZB HYB ⊢
  clear hzbe
  generalize zb+1=yb at *
  have CBl:=hid (fun wx=>gbZb wx)
  have CSI:=hid (fun wx=>qhZ wx none none 0 0 0 0 0 [] rfl (by omega) Row.zero Row.zero)
  have CIx:=hid (fun wx=>ieZb wx)
  have CSX:=hid (fun wx=>hbZb wx)
  have HS:Hid (∀wx,Below w5.heap.size w5 wx->wx.cell? ⟨xb,0,none⟩=some (.int .i64 0)/\wx.cell? ⟨xb,1,none⟩=some (.bool false)/\wx.cell? ⟨xb,2,none⟩=some (.int .i64 0)/\wx.cell? ⟨xb,3,none⟩=some (.int .i64 0)/\wx.cell? ⟨xb,4,none⟩=some (.int .i64 0)/\wx.cell? ⟨xb,5,none⟩=some (.int .i64 0)/\wx.cell? ⟨zb,0,none⟩=some (.int .i64 0)/\wx.cell? ⟨zb,1,none⟩=some (.bool false)/\wx.cell? ⟨zb,2,none⟩=some (.int .i64 0)/\wx.cell? ⟨zb,3,none⟩=some (.int .i64 0)/\wx.cell? ⟨zb,4,none⟩=some (.int .i64 0)/\wx.cell? ⟨zb,5,none⟩=some (.int .i64 0)/\wx.cell? ⟨yb,0,none⟩=some (.slice none 0 0)/\wx.cell? ⟨yb,4,none⟩=some (.slice none 0 0)/\wx.cell? ⟨yb,5,none⟩=some (.slice none 0 0)):=fun wx hb=>⟨(HXB.out.step hb).cell 0,(HXB.out.step hb).cell 1,(HXB.out.step hb).cell 2,(HXB.out.step hb).cell 3,(HXB.out.step hb).cell 4,(HXB.out.step hb).cell 5,(HZB.out.step hb).cell 0,(HZB.out.step hb).cell 1,(HZB.out.step hb).cell 2,(HZB.out.step hb).cell 3,(HZB.out.step hb).cell 4,(HZB.out.step hb).cell 5,(HYB.out.step hb).cell 0,(HYB.out.step hb).cell 4,(HYB.out.step hb).cell 5⟩
  clear HZB HYB HXB HB45 HB4 HB3
  go_region_held3 (fun wx=>wx.cell? ⟨xb,0,none⟩=some (.int .i64 0)/\wx.cell? ⟨xb,1,none⟩=some (.bool false)/\wx.cell? ⟨xb,2,none⟩=some (.int .i64 0)/\wx.cell? ⟨xb,3,none⟩=some (.int .i64 0)/\wx.cell? ⟨xb,4,none⟩=some (.int .i64 0)/\wx.cell? ⟨xb,5,none⟩=some (.int .i64 0)/\wx.cell? ⟨zb,0,none⟩=some (.int .i64 0)/\wx.cell? ⟨zb,1,none⟩=some (.bool false)/\wx.cell? ⟨zb,2,none⟩=some (.int .i64 0)/\wx.cell? ⟨zb,3,none⟩=some (.int .i64 0)/\wx.cell? ⟨zb,4,none⟩=some (.int .i64 0)/\wx.cell? ⟨zb,5,none⟩=some (.int .i64 0)/\wx.cell? ⟨yb,0,none⟩=some (.slice none 0 0)/\wx.cell? ⟨yb,4,none⟩=some (.slice none 0 0)/\wx.cell? ⟨yb,5,none⟩=some (.slice none 0 0)) (exact HS.out _ (by(repeat(first|(with_reducible first|exact Below.refl _ _|assumption|refine Below.drew ?_|refine below_drewN ?_ _|refine aZ ?_|refine dZ (by assumption) ?_)|((with_reducible first|refine fZ ?_ ?_|refine gZ ?_ ?_|refine iZ (by assumption) ?_ ?_);(focus(first|(simp;done)|(simp;omega)|omega|(simp at *;omega)))))))) (first|(go_at_call 12;(with_reducible refine(CBl.out _).mono ?_);rintro e wB ⟨rfl,rfl⟩)|(go_at_call 11;(with_reducible refine(CSI.out _).mono ?_);rintro e wC ⟨rfl,qC,rfl⟩)|(go_at_call 14;(with_reducible refine(CIx.out _).mono ?_);rintro e wF ⟨rfl,hbF⟩;have BF:Below w5.heap.size w5 wF:=dZ hbF (by(repeat(first|(with_reducible first|exact Below.refl _ _|assumption|refine Below.drew ?_|refine below_drewN ?_ _|refine aZ ?_|refine dZ (by assumption) ?_)|((with_reducible first|refine fZ ?_ ?_|refine gZ ?_ ?_|refine iZ (by assumption) ?_ ?_);(focus(first|(simp;done)|(simp;omega)|omega|(simp at *;omega))))))))|(go_at_call 13;(with_reducible refine(CSX.out _).mono ?_);rintro e wG ⟨rfl,hbG⟩;have BG:Below w5.heap.size w5 wG:=dZ hbG (by(repeat(first|(with_reducible first|exact Below.refl _ _|assumption|refine Below.drew ?_|refine below_drewN ?_ _|refine aZ ?_|refine dZ (by assumption) ?_)|((with_reducible first|refine fZ ?_ ?_|refine gZ ?_ ?_|refine iZ (by assumption) ?_ ?_);(focus(first|(simp;done)|(simp;omega)|omega|(simp at *;omega)))))))))
  all_goals
   have HBG:Hid (Below w.heap.size w wG):=HB5.out.trans (BG.mono HB5.out.size)
   clear BF hbF hbG BG CBl CSI CIx CSX HE
   go_wp2_with fail
   go_ret
   exact⟨rfl,HBG.out⟩
theorem drZ(w:World)(A:Option Addr)(n c:Nat)(hn:n<=9223372036854775807)(h:1500<n)(ht:TabAt w):
 Calls Tryz.prog 3 #[.slice A n c] w fun e w'=>e= .returned (.bool true)/\Below w.heap.size w w':=by
 have D:=hid (fun wx (hb:Below w.heap.size w wx)=>Two.mwZ wx (ht.step hb))
 have g1:decide ((1500:Int)<(n:Int))=true:=by simp;omega
 have g1':decide (1500<n)=true:=by simp;omega
 clear ht h
 go_enter Tryz.func3,Tryz.ntmps3
 go_wp2_with fail
 refine(D.out _ (Below.refl _ _)).mono ?_
 rintro e w1 ⟨rfl,hb⟩
 have HBW:=hid hb
 clear hb
 go_wp2_with fail
 go_ret
 exact⟨rfl,HBW.out⟩
end Go.Proofs.YtbgoibedicbkjaaGreatDoor.Body
