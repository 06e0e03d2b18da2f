/- The law BodyOpens. (By program: gen/bodyopens.py.) -/
import Derived.Test.YtnpglnpfmeeboaaGreatDoorZBodyOpens25
import Derived.Test.YtnpglnpfmeeboaaGreatDoorZBodyOpens30
import Derived.Test.YtnpglnpfmeeboaaGreatDoorZBodyOpens34
import Derived.Test.YtnpglnpfmeeboaaGreatDoorZBodyOpens21
import Derived.Test.YtnpglnpfmeeboaaGreatDoorZBodyOpens14
namespace Go.Proofs.YtnpglnpfmeeboaaGreatDoor end Go.Proofs.YtnpglnpfmeeboaaGreatDoor open Go.Proofs.YtnpglnpfmeeboaaGreatDoor
open Go.Lib (hid)
set_option maxRecDepth 100000
namespace Go.Proofs.YtnpglnpfmeeboaaGreatDoor.Body
open Go.RowKit Mem Go.Proofs.YtnpglnpfmeeboaaGreatDoor.Own Canon Nums Recs Opts
open Go.Proofs.YtnpglnpfmeeboaaGreatDoor.Crc (TabAt bbZ mdZ)
open Go.Proofs.YtnpglnpfmeeboaaGreatDoor.Open (vlZ)
open Go.Proofs.YtnpglnpfmeeboaaGreatDoor.Idx (Str IxAt ypZ zpZ zqZ)
open Go.Proofs.YtnpglnpfmeeboaaGreatDoor.Huff (fiZ)
theorem pvZ{w:World}{base n c:Nat}{A:Option Addr}{ids:List Nat}(h:w.ownsRow base 3 1 (.slice A n c) n (cZ .i64 ids))(hn:ids.length=n):Row w w.heap.size A n 1 (vlZ .i64 (ids.map Int.ofNat)):=Idx.own_ints h hn
theorem heZb{w:World}{base n c:Nat}{A:Option Addr}{ls:List Nat}(h:w.ownsRow base 5 1 (.slice A n c) n (cZ .u8 ls))(hn:ls.length=n):Row w w.heap.size A n 1 (mZ .u8 ls):=by
 subst hn
 exact own_row h
set_option maxHeartbeats 4000000 in
theorem ieZb(w:World)(o:Opt)(A:Option Addr)(n c:Nat)(ls:List Nat)(i:Int)(hi64:i<=9223372036854775807)(hn:ls.length=n)(hle:n<=1500)(hc:n<=c)(h8:∀x∈ls,x<=255)(hnil:A=none->n=0/\c=0)(ht:TabAt w)(ha:Row w w.heap.size A n 1 (mZ .u8 ls)):
 Calls Tryz.prog 3 #[o.val, .slice A n c, .int .i64 i] w fun e w'=>e= .returned (.bool true)/\Below w.heap.size w w':=by
 have D0:=hid (fun wx (hb:Below w.heap.size w wx)=>dvZ wx (ht.step hb))
 have D1:=hid (fun wx (hb:Below w.heap.size w wx)=>zdZb wx o A n c ls hn (by omega) hc h8 hnil (ht.step hb) ((ha.below hb).mono hb.size))
 have D2:=hid (fun wx (hb:Below w.heap.size w wx)=>raZb wx o A n c ls hn (by omega) hc h8 hnil ((ha.below hb).mono hb.size))
 have gl:decide ((1500:Int)<(n:Int))=false:=by simp;omega
 have gl':decide (1500<n)=false:=by simp;omega
 have HOK:Hid (nfZ o ls=0->oN ls<=20000/\(mcZ (cbZ ls)).length<=20000/\(sdZ (cbZ ls)).length=(mcZ (cbZ ls)).length/\(∀x∈mcZ (cbZ ls),x<=20000)/\(jbZ (oN ls) (bbZ (aeZ ls))).1.length=oN ls/\(jbZ (oN ls) (bbZ (aeZ ls))).2.1.length<=oN ls):=akZb h8
 have HSM:Hid (oN ls=(mcZ (cbZ ls)).sum):=rfl
 have HC8:Hid (∀x∈(jbZ (oN ls) (bbZ (aeZ ls))).2.1,x<=255):=ohZb (Body.gfZ (fun x hx=>by unfold aeZ at hx;exact h8 x (List.mem_of_mem_take (List.mem_of_mem_drop (List.mem_of_mem_take hx)))))
 have HX:=hid (gjZb (size:=o.bucket.toNat) (bound:=oN ls) (ls:=bbZ (zhZ ls)) (gfZ (fun x hx=>by unfold zhZ at hx;exact h8 x (List.mem_of_mem_take (List.mem_of_mem_drop hx)))))
 unfold nmZ at D1
 unfold wlZ at D2
 unfold Opt.val at D1 D2 ⊢
 generalize nfZ o ls=E at *
 generalize oN ls=N at *
 generalize mcZ (cbZ ls)=C at *
 generalize sdZ (cbZ ls)=S at *
 generalize (jbZ N (bbZ (aeZ ls))).1=T at *
 generalize (jbZ N (bbZ (aeZ ls))).2.1=L at *
 generalize Idx.ixR o.bucket.toNat N (bbZ (zhZ ls))=X at *
 generalize fcZ S (ls.take (seZ ls))=F at *
 generalize o.block=b0 at *
 generalize o.plain=b1 at *
 generalize o.bucket=b2 at *
 generalize o.data=b3 at *
 generalize o.parity=b4 at *
 generalize o.chunk=b5 at *
 clear ha hnil h8 hn ht
 go_enter Tryz.func3,Tryz.ntmps3
 go_wp2_with fail
 have hob:Blk (w.alloc (.cells #[.int .i64 b0, .bool b1, .int .i64 b2, .int .i64 b3, .int .i64 b4, .int .i64 b5] 23)) w.heap.size 23 #[.int .i64 b0, .bool b1, .int .i64 b2, .int .i64 b3, .int .i64 b4, .int .i64 b5]:=Blk.made _ _ _
 have hb1:Below w.heap.size w (w.alloc (.cells #[.int .i64 b0, .bool b1, .int .i64 b2, .int .i64 b3, .int .i64 b4, .int .i64 b5] 23)):=bZ (Below.refl _ _)
 generalize w.alloc (.cells #[.int .i64 b0, .bool b1, .int .i64 b2, .int .i64 b3, .int .i64 b4, .int .i64 b5] 23)=w1 at *
 have D0:=hid (D0.out w1 hb1)
 have HB1:=hid hb1
 have HOB:=hid hob
 clear hb1 hob
 refine D0.out.mono ?_
 rintro e w2 ⟨rfl,hb2⟩
 have HB2:Hid (Below w.heap.size w w2):=HB1.out.trans (hb2.mono HB1.out.size)
 have HOB2:=hid (HOB.out.step hb2)
 have hob2:=HOB2.out
 have o0:=hob2.cell 0;have o1:=hob2.cell 1;have o2:=hob2.cell 2;have o3:=hob2.cell 3;have o4:=hob2.cell 4;have o5:=hob2.cell 5;simp only[List.getElem?_toArray,List.getElem?_cons_zero,List.getElem?_cons_succ]at o0 o1 o2 o3 o4 o5
 have D1:=hid (D1.out w2 HB2.out)
 clear hb2 HB1 HOB D0 hob2
 go_wp2_with fail
 refine D1.out.mono ?_
 rintro e w3 ⟨hb3,hbad,hok⟩
 have HB3:Hid (Below w.heap.size w w3):=HB2.out.trans (hb3.mono HB2.out.size)
 have hob3:=HOB2.out.step hb3
 have o0:=hob3.cell 0;have o1:=hob3.cell 1;have o2:=hob3.cell 2;have o3:=hob3.cell 3;have o4:=hob3.cell 4;have o5:=hob3.cell 5;simp only[List.getElem?_toArray,List.getElem?_cons_zero,List.getElem?_cons_succ]at o0 o1 o2 o3 o4 o5
 have D2:=hid (D2.out w3 HB3.out)
 clear D1 HB2 HOB2 hob3
 by_cases hE:E=0
 ·subst hE
  obtain⟨gb,rfl,hba⟩:=hok (by first|trivial|rfl)
  have hz3:=HB3.out.size
  have HBA:=hid hba
  clear hbad hok hba hb3
  go_wp2_with fail
  refine D2.out.mono ?_
  rintro e w4 ⟨hb4,v,rfl,hrz,hrb⟩
  obtain⟨vc',vf',vt',vl',vT',vL',vals',fv',rfl,j1,j2,j3,j4,j5,j6⟩:=hrb (by first|trivial|rfl)
  obtain⟨okN,okC,okS,okx,okT,okL⟩:=HOK.out (by first|trivial|rfl)
  obtain⟨x1,x2,x3⟩:=HX.out
  have hsum:=HSM.out
  obtain⟨kc,hkc⟩:∃x,x=C.length:=⟨_,rfl⟩
  obtain⟨nf,hnf⟩:∃x,x=F.length:=⟨_,rfl⟩
  obtain⟨nt,hnt⟩:∃x,x=T.length:=⟨_,rfl⟩
  obtain⟨nl,hnl⟩:∃x,x=L.length:=⟨_,rfl⟩
  obtain⟨n1,hn1⟩:∃x,x=X.1.1.length:=⟨_,rfl⟩
  obtain⟨n2,hn2⟩:∃x,x=X.1.2.length:=⟨_,rfl⟩
  have j6t:=j6.t
  have j6l:=j6.l
  rw[<-hkc]at j1
  rw[<-hnf]at j2
  rw[<-hnt]at j4
  rw[<-hnl]at j5
  rw[<-hn1]at j6t
  rw[<-hn2]at j6l
  obtain⟨Bc,dc,rfl⟩:=aZ j1
  obtain⟨Bf,df,rfl⟩:=aZ j2
  obtain⟨Bt,dt,rfl⟩:=aZ j4
  obtain⟨Bl,dl,rfl⟩:=aZ j5
  obtain⟨BT,dT,rfl⟩:=aZ j6t
  obtain⟨BL,dL,rfl⟩:=aZ j6l
  have hba4:=HBA.out.step hb4
  have hb4':Below w.heap.size w w4:=HB3.out.trans (hb4.mono hz3)
  have okn:nt=N:=by rw[hnt];exact okT
  have okl:nl<=20000:=by rw[hnl];omega
  have okc:kc<=20000:=by rw[hkc];exact okC
  have okn2:nt<=20000:=by omega
  have HKC:=hid hkc
  have HNT:=hid hnt
  have HNL:=hid hnl
  have HSN:Hid (C.sum=nt):=by show _=_;rw[<-hsum];exact okn.symm
  have HOX:=hid okx
  have HSL:Hid (S.length=kc):=by show _=_;rw[okS,hkc]
  have HX3:=hid x3
  have hX1:X.1.1.length<=1100000:=by omega
  have hX2:X.1.2.length<=1100000:=by omega
  have hX3:∀l∈X.1.2,l.length<=1100000:=fun l hl=>by have:=x3 l hl;omega
  have HHX:=hid (And.intro hX1 (And.intro hX2 hX3))
  clear hb4 hrz hrb HBA j6t j6l okN okC okS okx okT okL x1 x2 x3 hsum okn hkc hnf hnt hnl hn1 hn2 D2 HOK HX HSM hX1 hX2 hX3 HX3 o0 o1 o2 o3 o4 o5
  go_wp2_with fail
  have hy5:Blk (w4.alloc (.cells #[.slice Bc kc dc, .slice Bf nf df, .slice Bt nt dt, .slice Bl nl dl, .slice BT n1 dT, .slice BL n2 dL] 38)) w4.heap.size 38 #[.slice Bc kc dc, .slice Bf nf df, .slice Bt nt dt, .slice Bl nl dl, .slice BT n1 dT, .slice BL n2 dL]:=Blk.made _ _ _
  have hb5:Below w4.heap.size w4 (w4.alloc (.cells #[.slice Bc kc dc, .slice Bf nf df, .slice Bt nt dt, .slice Bl nl dl, .slice BT n1 dT, .slice BL n2 dL] 38)):=bZ (Below.refl _ _)
  have hz5:w4.heap.size<(w4.alloc (.cells #[.slice Bc kc dc, .slice Bf nf df, .slice Bt nt dt, .slice Bl nl dl, .slice BT n1 dT, .slice BL n2 dL] 38)).heap.size:=by simp
  generalize w4.alloc (.cells #[.slice Bc kc dc, .slice Bf nf df, .slice Bt nt dt, .slice Bl nl dl, .slice BT n1 dT, .slice BL n2 dL] 38)=w5 at *
  have HB5:Hid (Below w.heap.size w w5):=hb4'.trans (hb5.mono hb4'.size)
  have hba5:=hba4.step hb5
  have far:∀ {b n:Nat} {e:TypeId} {v:Value} {xs:List Value},w4.ownsRow b e 1 v n xs->w5.ownsRow b e 1 v n xs:=fun ho=>dZ ho fun y hy=>hb5.block y (World.ownsRow.lt ho y hy).2
  have J1:=hid (far j1)
  have J4:=hid (far j4)
  have J5:=hid (far j5)
  have J6:Hid (IxAt w5 w3.heap.size (.slice BT n1 dT) (.slice BL n2 dL) vals' X.1.1 X.1.2):=⟨far j6.t,far j6.l,fun i v ids hv hi=>far (j6.r i v ids hv hi)⟩
  generalize w4.heap.size=yb at *
  obtain⟨vc,vs,p,q,vt,vl,vT,vL,vF,va,vals,fv,h0,h1,h2,h3,h4,h5,h6,h7⟩:=hba5
  rw[<-HKC.out]at h1
  rw[<-HNT.out]at h3
  rw[<-HNL.out]at h4
  rw[List.length_replicate,HSL.out]at h7
  obtain⟨Ac,cc,rfl⟩:=aZ h1
  obtain⟨At,ct,rfl⟩:=aZ h3
  obtain⟨Al,cl,rfl⟩:=aZ h4
  obtain⟨Aa,ca,rfl⟩:=aZ h7
  have H0:=hid h0
  have H1:=hid h1
  have H3:=hid h3
  have H4:=hid h4
  have H5:=hid h5
  have H7:=hid h7
  have HY:=hid hy5
  have hgb:=h0.lt
  have hbk:∀ {wx:World} {b n:Nat} {e:TypeId} {v:Value} {xs:List Value},Below w5.heap.size w5 wx->w5.ownsRow b e 1 v n xs->wx.ownsRow b e 1 v n xs:=fun hb ho=>dZ ho fun y hy=>hb.block y (World.ownsRow.lt ho y hy).2
  have hbx:∀ {wx:World} {b:Nat} {v1 v2:Value} {vs:List Value},Below w5.heap.size w5 wx->IxAt w5 b v1 v2 vs X.1.1 X.1.2->IxAt wx b v1 v2 vs X.1.1 X.1.2:=fun hb h=>⟨hbk hb h.t,hbk hb h.l,fun i v ids hv hi=>hbk hb (h.r i v ids hv hi)⟩
  have CLen:=hid (fun wx (hb:Below w5.heap.size w5 wx)=>plZ wx gb kc cc Ac C ((h0.step hb).cell 0) HKC.out.symm (by omega) (by rw[HSN.out];omega) (own_ints (hbk hb h1) HKC.out.symm))
  rw[HSN.out]at CLen
  have CBl:=hid (fun wx (hb:Below w5.heap.size w5 wx)=>dwZ wx gb w2.heap.size kc cc Ac (cZ .i64 C) ((h0.step hb).cell 0) (by omega) (hbk hb h1) (vZ _ _))
  have CSI:Hid (∀ (wx:World) (Ax:Option Addr) (cx b:Nat),Below w5.heap.size w5 wx->wx.ownsRow b 3 1 (.slice Ax kc cx) kc (cZ .i64 C)->Calls Tryz.prog 13 #[.slice Ax kc cx, .slice Bc kc dc] wx fun e w'=>e= .returned (.bool true)/\∃q,w'=wx.drewN q):=fun wx Ax cx b hb ho=>fiZ wx Ax Bc kc cx dc wx.heap.size wx.heap.size (C.map Int.ofNat) (by rw[List.length_map];exact HKC.out.symm) (by omega) (pvZ ho HKC.out.symm) (pvZ (hbk hb J1.out) HKC.out.symm)
  have CLv:=hid (fun wx (hb:Below w5.heap.size w5 wx)=>cwZ wx gb w2.heap.size nl cl Al L ((h0.step hb).cell 5) HNL.out.symm (by omega) (hbk hb h4))
  have CSL:Hid (∀ (wx:World) (Ax:Option Addr) (cx b:Nat),Below w5.heap.size w5 wx->wx.ownsRow b 5 1 (.slice Ax nl cx) nl (cZ .u8 L)->Calls Tryz.prog 15 #[.slice Ax nl cx, .slice Bl nl dl] wx fun e w'=>e= .returned (.bool true)/\wx=w'):=fun wx Ax cx b hb ho=>by
   refine(Huff.ykZ wx Ax Bl nl nl cx dl L L HNL.out.symm HNL.out.symm (fun e=>(leZ ho e).1) (fun e=>(leZ (hbk hb J5.out) e).1) HC8.out HC8.out (heZb ho HNL.out.symm) (heZb (hbk hb J5.out) HNL.out.symm)).mono ?_
   rintro e w' ⟨rfl,rfl⟩
   exact⟨ziZ (decide_eq_true rfl),rfl⟩
  have CIx:Hid (∀wx,Below w5.heap.size w5 wx->Calls Tryz.prog 18 #[.pointer (some ⟨gb,0,none⟩)] wx fun e w'=>∃vT vL vals,e= .returned (.agg #[vT,vL])/\IxAt w' wx.heap.size vT vL vals X.1.1 X.1.2/\Below wx.heap.size wx w'):=fun wx hb=>ypZ wx gb w2.heap.size vT vL vals X.1.1 X.1.2 ((h0.step hb).cell 6) ((h0.step hb).cell 7) (hbx hb h5) HHX.out.1 HHX.out.2.1 HHX.out.2.2 (by have:=hb.size;omega)
  have CSX:Hid (∀ (wx:World) (v1 v2:Value) (vsx:List Value) (b:Nat),Below w5.heap.size w5 wx->IxAt wx b v1 v2 vsx X.1.1 X.1.2->Calls Tryz.prog 17 #[.agg #[v1,v2], .agg #[.slice BT n1 dT, .slice BL n2 dL]] wx fun e w'=>e= .returned (.bool true)/\Below wx.heap.size wx w'):=fun wx v1 v2 vsx b hb h=>zpZ wx b w3.heap.size v1 v2 (.slice BT n1 dT) (.slice BL n2 dL) vsx vals' X.1.1 X.1.2 h (hbx hb J6.out) (Nat.le_trans HHX.out.1 (by decide)) (Nat.le_trans HHX.out.2.1 (by decide)) (fun l hl=>Nat.le_trans (HHX.out.2.2 l hl) (by decide))
  have CTi:=hid (fun wx (hb:Below w5.heap.size w5 wx)=>yyZ wx gb w2.heap.size nt ct At (cZ .u64 T) ((h0.step hb).cell 4) (by omega) (hbk hb h3) (vZ _ _))
  have CBk:=hid (fun wx (hb:Below w5.heap.size w5 wx)=>xzZ wx gb kc cc Ac C i ((h0.step hb).cell 0) HKC.out.symm (by omega) (by rw[HSN.out];omega) (own_ints (hbk hb h1) HKC.out.symm))
  have CRk:=hid (fun wx (hb:Below w5.heap.size w5 wx)=>onZ wx kc dc Bc Bf Bt Bl BT BL nf df nt dt nl dl n1 dT n2 dL C i hi64 HKC.out.symm (by omega) (own_ints (hbk hb J1.out) HKC.out.symm) (fun x hx=>by have:=HOX.out x hx;omega))
  have COp:=hid (fun wx (hb:Below w5.heap.size w5 wx)=>vwZ wx gb w2.heap.size kc ca Aa ((h0.step hb).cell 9) (by omega) (by have h:=hbk hb h7;rw[List.map_replicate]at h;exact h))
  have HS:Hid (∀wx,Below w5.heap.size w5 wx->wx.cell? ⟨yb,0,none⟩=some (.slice Bc kc dc)/\wx.cell? ⟨yb,2,none⟩=some (.slice Bt nt dt)/\wx.cell? ⟨yb,3,none⟩=some (.slice Bl nl dl)/\wx.cell? ⟨yb,4,none⟩=some (.slice BT n1 dT)/\wx.cell? ⟨yb,5,none⟩=some (.slice BL n2 dL)):=fun wx hb=>⟨(hy5.step hb).cell 0,(hy5.step hb).cell 2,(hy5.step hb).cell 3,(hy5.step hb).cell 4,(hy5.step hb).cell 5⟩
  generalize iiZ C i=bV at *
  generalize blkB C i=bB at *
  clear hb5 hba4 hb4' j1 j2 j3 j4 j5 j6 far h0 h1 h2 h3 h4 h5 h6 h7 hy5 hbk hbx H0 H1 H4 H5 H7 HOX HSL HHX J6 J5 J1 HSN hz5
  go_region_held3 (fun wx=>wx.cell? ⟨yb,0,none⟩=some (.slice Bc kc dc)/\wx.cell? ⟨yb,2,none⟩=some (.slice Bt nt dt)/\wx.cell? ⟨yb,3,none⟩=some (.slice Bl nl dl)/\wx.cell? ⟨yb,4,none⟩=some (.slice BT n1 dT)/\wx.cell? ⟨yb,5,none⟩=some (.slice BL n2 dL)) (exact HS.out _ (by(repeat(first|(with_reducible first|exact Below.refl _ _|assumption|refine Below.drew ?_|refine below_drewN ?_ _|refine bZ ?_|refine eZ (by assumption) ?_)|((with_reducible first|refine fZ ?_ ?_|refine gZ ?_ ?_|refine iZ (by assumption) ?_ ?_);(focus(first|(simp;done)|(simp;omega)|omega|(simp at *;omega)))))))) (first|(go_at_call 12;(with_reducible refine(CLen.out _ (by(repeat(first|(with_reducible first|exact Below.refl _ _|assumption|refine Below.drew ?_|refine below_drewN ?_ _|refine bZ ?_|refine eZ (by assumption) ?_)|((with_reducible first|refine fZ ?_ ?_|refine gZ ?_ ?_|refine iZ (by assumption) ?_ ?_);(focus(first|(simp;done)|(simp;omega)|omega|(simp at *;omega)))))))).mono ?_);rintro e wA ⟨rfl,rfl⟩)|(go_at_call 14;(with_reducible refine(CBl.out _ (by(repeat(first|(with_reducible first|exact Below.refl _ _|assumption|refine Below.drew ?_|refine below_drewN ?_ _|refine bZ ?_|refine eZ (by assumption) ?_)|((with_reducible first|refine fZ ?_ ?_|refine gZ ?_ ?_|refine iZ (by assumption) ?_ ?_);(focus(first|(simp;done)|(simp;omega)|omega|(simp at *;omega)))))))).mono ?_);rintro e wB ⟨vB,rfl,hoB,hbB⟩;obtain⟨AB,cB,rfl⟩:=aZ hoB;have BB:Below w5.heap.size w5 wB:=eZ hbB (by(repeat(first|(with_reducible first|exact Below.refl _ _|assumption|refine Below.drew ?_|refine below_drewN ?_ _|refine bZ ?_|refine eZ (by assumption) ?_)|((with_reducible first|refine fZ ?_ ?_|refine gZ ?_ ?_|refine iZ (by assumption) ?_ ?_);(focus(first|(simp;done)|(simp;omega)|omega|(simp at *;omega))))))))|(go_at_call 13;(with_reducible refine(CSI.out _ _ _ _ (by(repeat(first|(with_reducible first|exact Below.refl _ _|assumption|refine Below.drew ?_|refine below_drewN ?_ _|refine bZ ?_|refine eZ (by assumption) ?_)|((with_reducible first|refine fZ ?_ ?_|refine gZ ?_ ?_|refine iZ (by assumption) ?_ ?_);(focus(first|(simp;done)|(simp;omega)|omega|(simp at *;omega))))))) (by first|exact hoB|exact dZ hoB (fun y _=>rfl))).mono ?_);rintro e wC ⟨rfl,qC,rfl⟩)|(go_at_call 16;(with_reducible refine(CLv.out _ (by(repeat(first|(with_reducible first|exact Below.refl _ _|assumption|refine Below.drew ?_|refine below_drewN ?_ _|refine bZ ?_|refine eZ (by assumption) ?_)|((with_reducible first|refine fZ ?_ ?_|refine gZ ?_ ?_|refine iZ (by assumption) ?_ ?_);(focus(first|(simp;done)|(simp;omega)|omega|(simp at *;omega)))))))).mono ?_);rintro e wD ⟨vD,rfl,hoD,hbD⟩;obtain⟨AD,cD,rfl⟩:=aZ hoD;have BD:Below w5.heap.size w5 wD:=eZ hbD (by(repeat(first|(with_reducible first|exact Below.refl _ _|assumption|refine Below.drew ?_|refine below_drewN ?_ _|refine bZ ?_|refine eZ (by assumption) ?_)|((with_reducible first|refine fZ ?_ ?_|refine gZ ?_ ?_|refine iZ (by assumption) ?_ ?_);(focus(first|(simp;done)|(simp;omega)|omega|(simp at *;omega))))))))|(go_at_call 15;(with_reducible refine(CSL.out _ _ _ _ (by(repeat(first|(with_reducible first|exact Below.refl _ _|assumption|refine Below.drew ?_|refine below_drewN ?_ _|refine bZ ?_|refine eZ (by assumption) ?_)|((with_reducible first|refine fZ ?_ ?_|refine gZ ?_ ?_|refine iZ (by assumption) ?_ ?_);(focus(first|(simp;done)|(simp;omega)|omega|(simp at *;omega))))))) (by first|exact hoD|exact dZ hoD (fun y _=>rfl))).mono ?_);rintro e wE ⟨rfl,rfl⟩)|(go_at_call 18;(with_reducible refine(CIx.out _ (by(repeat(first|(with_reducible first|exact Below.refl _ _|assumption|refine Below.drew ?_|refine below_drewN ?_ _|refine bZ ?_|refine eZ (by assumption) ?_)|((with_reducible first|refine fZ ?_ ?_|refine gZ ?_ ?_|refine iZ (by assumption) ?_ ?_);(focus(first|(simp;done)|(simp;omega)|omega|(simp at *;omega)))))))).mono ?_);rintro e wF ⟨v1,v2,vsx,rfl,hixF,hbF⟩;have BF:Below w5.heap.size w5 wF:=eZ hbF (by(repeat(first|(with_reducible first|exact Below.refl _ _|assumption|refine Below.drew ?_|refine below_drewN ?_ _|refine bZ ?_|refine eZ (by assumption) ?_)|((with_reducible first|refine fZ ?_ ?_|refine gZ ?_ ?_|refine iZ (by assumption) ?_ ?_);(focus(first|(simp;done)|(simp;omega)|omega|(simp at *;omega))))))))|(go_at_call 17;(with_reducible refine(CSX.out _ _ _ _ _ (by(repeat(first|(with_reducible first|exact Below.refl _ _|assumption|refine Below.drew ?_|refine below_drewN ?_ _|refine bZ ?_|refine eZ (by assumption) ?_)|((with_reducible first|refine fZ ?_ ?_|refine gZ ?_ ?_|refine iZ (by assumption) ?_ ?_);(focus(first|(simp;done)|(simp;omega)|omega|(simp at *;omega))))))) (by exact hixF)).mono ?_);rintro e wG ⟨rfl,hbG⟩;have BG:Below w5.heap.size w5 wG:=eZ hbG (by(repeat(first|(with_reducible first|exact Below.refl _ _|assumption|refine Below.drew ?_|refine below_drewN ?_ _|refine bZ ?_|refine eZ (by assumption) ?_)|((with_reducible first|refine fZ ?_ ?_|refine gZ ?_ ?_|refine iZ (by assumption) ?_ ?_);(focus(first|(simp;done)|(simp;omega)|omega|(simp at *;omega)))))))))
  all_goals
   have HBG:=hid BG
   clear BB BD BF hoB hbB hoD hbD hixF hbF hbG BG CLen CBl CSI CLv CSL CIx CSX
   have CTi2:=hid (CTi.out wG HBG.out)
   clear CTi
   go_wp2_with fail
   refine CTi2.out.mono ?_
   rintro e wM ⟨vM,rfl,hoM,hbM⟩
   obtain⟨AM,cM,rfl⟩:=aZ hoM
   have HBM:Hid (Below w5.heap.size w5 wM):=eZ hbM HBG.out
   have HOM:=hid hoM
   have k2:=(HS.out wM HBM.out).2.1
   clear hoM hbM CTi2
   go_wp2_with fail
   go_loopw [12] (fun kv wr=>∃k:Nat,k<=nt/\kv= .int .i64 k/\Hid (∃q,wr=wM.drewN q)) (fun kv _=>nt-(intOf kv).toNat)
   case atStart=>exact⟨0,by omega,rfl,⟨0,rfl⟩⟩
   case round=>
    obtain⟨k,hk,rfl,hdr⟩:=hrel
    clear k2
    have hBr:Below w5.heap.size w5 wr:=by obtain⟨q,hq⟩:=hdr.out;rw[hq];exact below_drewN HBM.out _
    have k2:=(HS.out wr hBr).2.1
    by_cases hlt:k<nt
    ·have hoMr:wr.ownsRow wG.heap.size 49 1 (.slice AM nt cM) nt (cZ .u64 T):=by obtain⟨q,hq⟩:=hdr.out;rw[hq];exact dZ HOM.out (fun y _=>rfl)
     have hoYr:wr.ownsRow w3.heap.size 49 1 (.slice Bt nt dt) nt (cZ .u64 T):=dZ J4.out (fun y hy=>hBr.block y (World.ownsRow.lt J4.out y hy).2)
     obtain⟨x,hx⟩:∃x,T[k]? =some x:=⟨_,List.getElem?_eq_getElem (by rw[<-HNT.out];exact hlt)⟩
     obtain⟨gM,cM2,hAM,hgM,_⟩:=hoMr.form (by omega)
     injection hAM with q1 q2 q3
     subst q1 q3
     clear q2
     obtain⟨gY,cY2,hAY,hgY,_⟩:=hoYr.form (by omega)
     injection hAY with q1 q2 q3
     subst q1 q3
     clear q2
     have ck1:wr.cell? ⟨gM,k,none⟩=some (.int .u64 (x:Nat)):=by
      rw[hoMr.cellAt k (by omega)]
      unfold cZ
      rw[List.getElem?_map,hx]
      rfl
     have ck2:wr.cell? ⟨gY,k,none⟩=some (.int .u64 (x:Nat)):=by
      rw[hoYr.cellAt k (by omega)]
      unfold cZ
      rw[List.getElem?_map,hx]
      rfl
     have gk:decide ((k:Int)<(nt:Int))=true:=by simp;omega
     have gk':decide (k<nt)=true:=by simp;omega
     have x10:(0:Int)<=(k:Int):=by omega
     have x11:(k:Int)<(nt:Int):=by omega
     clear hoMr hoYr hx hBr
     go_wp2_with fail
     go_quiet (fail)
     go_wp2_with fail
     go_roundw
     case measure=>go_light;simp[intOf];omega
     case rel=>
      go_light
      refine⟨k+1,by omega,by go_num,?_⟩
      obtain⟨q,rfl⟩:=hdr.out
      exact⟨_,World.drewN_drewN _ _ _⟩
    ·obtain rfl:k=nt:=by omega
     have gk:decide ((k:Int)<(k:Int))=false:=by simp
     have HBr:=hid hBr
     have DBk:=hid (CBk.out wr hBr)
     have hyr:=HY.out.step hBr
     have y0:=hyr.cell 0;have y1:=hyr.cell 1;have y2:=hyr.cell 2;have y3:=hyr.cell 3;have y4:=hyr.cell 4;have y5:=hyr.cell 5;simp only[List.getElem?_toArray,List.getElem?_cons_zero,List.getElem?_cons_succ]at y0 y1 y2 y3 y4 y5
     clear hdr hBr k2 hyr
     go_wp2_with fail
     refine DBk.out.mono ?_
     rintro e wN ⟨rfl,rfl⟩
     go_wp2_with fail
     with_reducible refine(CRk.out _ HBr.out).mono ?_
     rintro e wP ⟨rfl,hbP⟩
     have HBP:Hid (Below w5.heap.size w5 wP):=eZ hbP HBr.out
     have HBW:Hid (Below w.heap.size w wP):=HB5.out.trans (HBP.out.mono HB5.out.size)
     clear hbP DBk CBk CRk
     go_wp2_with fail
     refine(COp.out _ HBP.out).mono ?_
     rintro e wQ ⟨rfl,rfl⟩
     go_wp2_with fail
     go_ret
     exact⟨rfl,HBW.out⟩
 ·have hE':=hbad hE
  subst hE'
  have hz3:=HB3.out.size
  have gE:(E != 0)=true:=by simpa using hE
  have HNE:=hid hE
  clear hbad hok hb3 hE HOK HSM HC8 HX
  go_wp2_with fail
  refine D2.out.mono ?_
  rintro e w4 ⟨hb4,v,rfl,hrz,hrb⟩
  obtain rfl:=hrz HNE.out
  have hb4':Below w.heap.size w w4:=HB3.out.trans (hb4.mono hz3)
  clear hrz hrb hb4 D2 o0 o1 o2 o3 o4 o5
  unfold zero6
  go_wp2_with fail
  have hy5:Blk (w4.alloc (.cells #[.slice none 0 0, .slice none 0 0, .slice none 0 0, .slice none 0 0, .slice none 0 0, .slice none 0 0] 38)) w4.heap.size 38 #[.slice none 0 0, .slice none 0 0, .slice none 0 0, .slice none 0 0, .slice none 0 0, .slice none 0 0]:=Blk.made _ _ _
  have hb5:Below w4.heap.size w4 (w4.alloc (.cells #[.slice none 0 0, .slice none 0 0, .slice none 0 0, .slice none 0 0, .slice none 0 0, .slice none 0 0] 38)):=bZ (Below.refl _ _)
  generalize w4.alloc (.cells #[.slice none 0 0, .slice none 0 0, .slice none 0 0, .slice none 0 0, .slice none 0 0, .slice none 0 0] 38)=w5 at *
  have HB5:Hid (Below w.heap.size w w5):=hb4'.trans (hb5.mono hb4'.size)
  have HY:=hid hy5
  generalize w4.heap.size=yb at *
  have CLen:=hid (fun wx=>len_nil wx)
  have CBl:=hid (fun wx=>caZb wx)
  have CSI:=hid (fun wx=>fiZ wx none none 0 0 0 0 0 [] rfl (by omega) Row.zero Row.zero)
  have CLv:=hid (fun wx=>daZb wx)
  have CSL:Hid (∀wx:World,Calls Tryz.prog 15 #[.slice none 0 0, .slice none 0 0] wx fun e w'=>e= .returned (.bool true)/\wx=w'):=fun wx=>by
   refine(Huff.ykZ wx none none 0 0 0 0 [] [] rfl rfl (fun _=>rfl) (fun _=>rfl) (by simp) (by simp) Row.zero Row.zero).mono ?_
   rintro e w' ⟨rfl,rfl⟩
   exact⟨ziZ (decide_eq_true rfl),rfl⟩
  have CIx:=hid (fun wx=>bdZb wx)
  have CSX:=hid (fun wx=>faZb wx)
  have CTi:=hid (fun wx=>adZb wx)
  have CBk:=hid (fun wx=>cdZb wx i)
  have CRk:Hid (∀wx:World,Calls Tryz.prog 21 #[.agg #[.slice none 0 0, .slice none 0 0, .slice none 0 0, .slice none 0 0, .slice none 0 0, .slice none 0 0], .int .i64 i] wx fun e w'=>e= .returned (.tuple #[.int .i64 0, .bool false])/\Below wx.heap.size wx w'):=fun wx=>by
   have h:=onZ wx 0 0 none none none none none none 0 0 0 0 0 0 0 0 0 0 [] i hi64 rfl (by omega) Row.zero (fun x hx=>by simp at hx)
   rw[show iiZ [] i=0 by unfold iiZ;split<;>rfl,show blkB [] i=false from decide_eq_false (fun h=>by have h1:=h.1;have h2:i<0:=h.2;omega)]at h
   exact h
  have COp:=hid (fun wx=>eaZb wx)
  have HS:Hid (∀wx,Below w5.heap.size w5 wx->wx.cell? ⟨yb,0,none⟩=some (.slice none 0 0)/\wx.cell? ⟨yb,2,none⟩=some (.slice none 0 0)/\wx.cell? ⟨yb,3,none⟩=some (.slice none 0 0)/\wx.cell? ⟨yb,4,none⟩=some (.slice none 0 0)/\wx.cell? ⟨yb,5,none⟩=some (.slice none 0 0)):=fun wx hb=>⟨(hy5.step hb).cell 0,(hy5.step hb).cell 2,(hy5.step hb).cell 3,(hy5.step hb).cell 4,(hy5.step hb).cell 5⟩
  clear hb5 hb4' hy5
  go_region_held3 (fun wx=>wx.cell? ⟨yb,0,none⟩=some (.slice none 0 0)/\wx.cell? ⟨yb,2,none⟩=some (.slice none 0 0)/\wx.cell? ⟨yb,3,none⟩=some (.slice none 0 0)/\wx.cell? ⟨yb,4,none⟩=some (.slice none 0 0)/\wx.cell? ⟨yb,5,none⟩=some (.slice none 0 0)) (exact HS.out _ (by(repeat(first|(with_reducible first|exact Below.refl _ _|assumption|refine Below.drew ?_|refine below_drewN ?_ _|refine bZ ?_|refine eZ (by assumption) ?_)|((with_reducible first|refine fZ ?_ ?_|refine gZ ?_ ?_|refine iZ (by assumption) ?_ ?_);(focus(first|(simp;done)|(simp;omega)|omega|(simp at *;omega)))))))) (first|(go_at_call 12;(with_reducible refine(CLen.out _).mono ?_);rintro e wA ⟨rfl,rfl⟩)|(go_at_call 14;(with_reducible refine(CBl.out _).mono ?_);rintro e wB ⟨rfl,rfl⟩)|(go_at_call 13;(with_reducible refine(CSI.out _).mono ?_);rintro e wC ⟨rfl,qC,rfl⟩)|(go_at_call 16;(with_reducible refine(CLv.out _).mono ?_);rintro e wD ⟨rfl,rfl⟩)|(go_at_call 15;(with_reducible refine(CSL.out _).mono ?_);rintro e wE ⟨rfl,rfl⟩)|(go_at_call 18;(with_reducible refine(CIx.out _).mono ?_);rintro e wF ⟨rfl,hbF⟩;have BF:Below w5.heap.size w5 wF:=eZ hbF (by(repeat(first|(with_reducible first|exact Below.refl _ _|assumption|refine Below.drew ?_|refine below_drewN ?_ _|refine bZ ?_|refine eZ (by assumption) ?_)|((with_reducible first|refine fZ ?_ ?_|refine gZ ?_ ?_|refine iZ (by assumption) ?_ ?_);(focus(first|(simp;done)|(simp;omega)|omega|(simp at *;omega))))))))|(go_at_call 17;(with_reducible refine(CSX.out _).mono ?_);rintro e wG ⟨rfl,hbG⟩;have BG:Below w5.heap.size w5 wG:=eZ hbG (by(repeat(first|(with_reducible first|exact Below.refl _ _|assumption|refine Below.drew ?_|refine below_drewN ?_ _|refine bZ ?_|refine eZ (by assumption) ?_)|((with_reducible first|refine fZ ?_ ?_|refine gZ ?_ ?_|refine iZ (by assumption) ?_ ?_);(focus(first|(simp;done)|(simp;omega)|omega|(simp at *;omega)))))))))
  all_goals
   have HBG:=hid BG
   clear BF hbF hbG BG CLen CBl CSI CLv CSL CIx CSX
   have k2:=(HS.out wG HBG.out).2.1
   go_wp2_with fail
   refine(CTi.out _).mono ?_
   rintro e wM ⟨rfl,rfl⟩
   go_wp2_with fail
   go_loopw [12] (fun kv wr=>kv= .int .i64 0/\Hid (wr=wG)) (fun kv _=>0)
   case atStart=>exact⟨rfl,by first|rfl|trivial⟩
   case round=>
    obtain⟨rfl,hw⟩:=hrel
    have hw:=hw.out
    subst hw
    have hyr:=HY.out.step HBG.out
    have y0:=hyr.cell 0;have y1:=hyr.cell 1;have y2:=hyr.cell 2;have y3:=hyr.cell 3;have y4:=hyr.cell 4;have y5:=hyr.cell 5;simp only[List.getElem?_toArray,List.getElem?_cons_zero,List.getElem?_cons_succ]at y0 y1 y2 y3 y4 y5
    clear hyr k2
    go_wp2_with fail
    refine(CBk.out _).mono ?_
    rintro e wN ⟨rfl,rfl⟩
    go_wp2_with fail
    refine(CRk.out _).mono ?_
    rintro e wP ⟨rfl,hbP⟩
    have HBP:Hid (Below w5.heap.size w5 wP):=eZ hbP HBG.out
    have HBW:Hid (Below w.heap.size w wP):=HB5.out.trans (HBP.out.mono HB5.out.size)
    clear hbP CBk CRk
    go_wp2_with fail
    refine(COp.out _).mono ?_
    rintro e wQ ⟨rfl,rfl⟩
    go_wp2_with fail
    go_ret
    exact⟨rfl,HBW.out⟩
theorem arZ(w:World)(o:Opt)(A:Option Addr)(n c:Nat)(i:Int)(hn:n<=9223372036854775807)(h:1500<n)(ht:TabAt w):
 Calls Tryz.prog 3 #[o.val, .slice A n c, .int .i64 i] w fun e w'=>e= .returned (.bool true)/\Below w.heap.size w w':=by
 have D:=hid (fun wx (hb:Below w.heap.size w wx)=>dvZ wx (ht.step hb))
 have g1:decide ((1500:Int)<(n:Int))=true:=by simp;omega
 have g1':decide (1500<n)=true:=by simp;omega
 clear ht h
 unfold Opt.val
 go_enter Tryz.func3,Tryz.ntmps3
 go_wp2_with fail
 have hb1:Below w.heap.size w (w.alloc (.cells #[.int .i64 o.block, .bool o.plain, .int .i64 o.bucket, .int .i64 o.data, .int .i64 o.parity, .int .i64 o.chunk] 23)):=bZ (Below.refl _ _)
 refine(D.out _ hb1).mono ?_
 rintro e w1 ⟨rfl,hb⟩
 have HBW:Hid (Below w.heap.size w w1):=hb1.trans (hb.mono hb1.size)
 clear hb hb1
 go_wp2_with fail
 go_ret
 exact⟨rfl,HBW.out⟩
end Go.Proofs.YtnpglnpfmeeboaaGreatDoor.Body
