/- A body of a log: the walk of body.Make. Bodies that are made: all ways -/
import Derived.Test.YtbgoibedicbkjaaGreatDoorZTwoOpens21
import Derived.Test.YtbgoibedicbkjaaGreatDoorZTwoOpens23
import Derived.Test.YtbgoibedicbkjaaGreatDoorZTwoOpens24
import Derived.Test.YtbgoibedicbkjaaGreatDoorZTwoOpens3
import Derived.Test.YtbgoibedicbkjaaGreatDoorZTwoOpens12
import Derived.Deep.RegionHeld3
namespace Go.Proofs.YtbgoibedicbkjaaGreatDoor end Go.Proofs.YtbgoibedicbkjaaGreatDoor open Go.Proofs.YtbgoibedicbkjaaGreatDoor
open Go.Lib (hid)
set_option maxHeartbeats 8000000
set_option maxRecDepth 100000
namespace Go.Proofs.YtbgoibedicbkjaaGreatDoor.Body
open Go.RowKit Mem Go.Proofs.YtbgoibedicbkjaaGreatDoor.Own Canon NumPut Crc
open Recs Opts Idx
open Go.Proofs.YtbgoibedicbkjaaGreatDoor.Block (igZ oZ ieZ)
open Go.Proofs.YtbgoibedicbkjaaGreatDoor.One (FrsAt FrsAt.step FrsAt.grown FrsAt.snoc beZ mrZ xkZ bkZ)
def wpZ(o:Opt)(l:List Rec)(w:World)(e:Ending)(w':World):Prop:=
 ∃v,e= .returned (.tuple #[v, .int .i64 0])/\w'.ownsRow w.heap.size 5 1 v (aiZ o l).length (cZ .u8 (aiZ o l))/\Below w.heap.size w w'
end Go.Proofs.YtbgoibedicbkjaaGreatDoor.Body
namespace Go.Proofs.YtbgoibedicbkjaaGreatDoor.Body
open Go.RowKit Mem Go.Proofs.YtbgoibedicbkjaaGreatDoor.Own Canon NumPut Crc
open Recs Opts Idx
open Go.Proofs.YtbgoibedicbkjaaGreatDoor.Block (oZ)
def Cd(o:Opt)(l:List Rec)(n:Nat):Prop:=n<=1000/\(ifZ false l).length<=16000/\(obZ (l.map abZ)).length<=20000/\(oeZ o=0->(ixR o l).length<=99000)
def euZ(o:Opt)(l:List Rec):Int:=if oeZ o≠0 then oeZ o else if ymZ l≠0 then ymZ l else 0
def unZ(o:Opt)(l:List Rec):List Nat:=if euZ o l=0 then aiZ o l else []
theorem dkZb(x:Nat):∀y∈xeZ x,y<=255:=fun y h=>by
 unfold xeZ at h
 simp only[List.mem_cons,List.not_mem_nil,or_false]at h
 rcases h with rfl|rfl|rfl|rfl<;>omega
theorem yhZb{n:Nat}{G:List Nat}{FS:List (List Nat)}{cols idx:List Nat}(h1:∀x∈FS.flatten,x<=255)(h2:∀x∈cols,x<=255)(h3:∀x∈idx,x<=255):∀x∈aeZ n G FS cols idx,x<=255:=fun x hx=>by
 unfold aeZ at hx
 simp only[List.mem_append]at hx
 rcases hx with hx|hx|hx|hx|hx
 ·exact h1 x hx
 ·exact srZ h2 x hx
 ·exact srZ h3 x hx
 ·exact srZ (trZ _ _ _ _ _) x hx
 ·exact dkZb _ x hx
def exB:Opt:=⟨16,false,1,0,0,0⟩
theorem kzZ:aiZ exB []=aeZ 0 [] [] [] [0]:=by
 have h1:ixR exB []= [0]:=by
  unfold ixR ixO hdZ agZ
  simp[obZ,njZ,tjZ,feZ]
 have h2:rcZ exB []= []:=rfl
 have h3:bgZ ([]:List Rec)= []:=by
  unfold bgZ
  simp[vbZ,zbZ,ybZ,lvB]
 unfold aiZ
 rw[h1,h2,h3]
 rfl
end Go.Proofs.YtbgoibedicbkjaaGreatDoor.Body
namespace Go.Proofs.YtbgoibedicbkjaaGreatDoor.Two
open Go.RowKit Mem Go.Proofs.YtbgoibedicbkjaaGreatDoor.Own Canon NumPut Crc
open Recs Opts Go.Proofs.YtbgoibedicbkjaaGreatDoor.One
open Go.Proofs.YtbgoibedicbkjaaGreatDoor.Block (oZ ieZ)
def diZ(S fl K:Nat):List Nat:=adZ 2++(nZ S++([fl]++(nZ K++ [])))
def neZ(S fl K:Nat):List Nat:=diZ S fl K++tbZ (bcZ (diZ S fl K))
theorem xpZ{S fl K:Nat}(h:fl<=1):∀x∈diZ S fl K,x<=255:=by
 intro x hx
 unfold diZ at hx
 simp only[List.mem_append,List.mem_singleton,List.append_nil]at hx
 rcases hx with hx|hx|rfl|hx
 ·revert x;decide
 ·exact ucZ _ x hx
 ·omega
 ·exact ucZ _ x hx
theorem zhZb{S fl K:Nat}(h:fl<=1):∀x∈neZ S fl K,x<=255:=by
 intro x hx
 unfold neZ at hx
 rcases List.mem_append.1 hx with hx|hx
 ·exact xpZ h x hx
 ·have:=kmZ _ x hx;omega
theorem hnZ{S fl K:Nat}(hS:S<=32768)(hK:K<=64):(diZ S fl K).length<=26:=by
 have h1:=rZ (x:=S) (by omega)
 have h2:=rZ (x:=K) (by omega)
 unfold diZ
 simp[adZ]
 omega
theorem ktZ{S fl K:Nat}(hS:S<=32768)(hK:K<=64):(neZ S fl K).length<=30:=by
 have h1:=hnZ (fl:=fl) hS hK
 unfold neZ
 rw[List.length_append]
 have:(tbZ (bcZ (diZ S fl K))).length=4:=rfl
 omega
theorem aiZb(wx:World):Part.Ok (⟨some ⟨wx.heap.size,0,none⟩,1,[1]⟩:Part) (wx.alloc (.cells #[.int .u8 1] 5)):=
 ieZ (show Blk (wx.alloc (.cells #[.int .u8 1] 5)) wx.heap.size 5 #[.int .u8 ((1:Nat):Int)] from Blk.made _ _ _)
theorem eeZb(wx:World):Part.Ok (⟨some ⟨wx.heap.size,0,none⟩,1,[0]⟩:Part) (wx.alloc (.cells #[.int .u8 0] 5)):=
 ieZ (show Blk (wx.alloc (.cells #[.int .u8 0] 5)) wx.heap.size 5 #[.int .u8 ((0:Nat):Int)] from Blk.made _ _ _)
theorem feZb(w:World):
 Calls Tryz.prog 135 #[.int .i64 2] w fun e w'=>∃v,e= .returned (.tuple #[v, .int .i64 0])/\w'.ownsRow w.heap.size 5 1 v 5 (cZ .u8 (adZ 2))/\Below w.heap.size w w':=by
 obtain⟨j0,hj0,hy0,hy1,hy2⟩:=info_parts acZ
 have D:=hid (fun wx=>gjZ wx 2 1 3)
 have hd:decide ((1:Int)<=2/\(2:Int)<=3)=true:=by decide
 rw[hd]at D
 go_enter Tryz.func135,Tryz.ntmps135
 go_wp2_with fail
 refine(D.out _).mono ?_
 rintro e w1 ⟨rfl,rfl⟩
 clear D hd
 have kc:=fun(w:World) (C:Array Value) (n c:Nat)=>Lib.run_convert_bytes_const (P:=Tryz.prog) w 22 5 C n c Tryz.underlying22 Tryz.underlying5
 have c1:IntKind.u8.wrap 2=2:=rfl
 have HB:Hid (Below w1.heap.size w1 ((w1.alloc (.cells #[.int .u8 70, .int .u8 73, .int .u8 82, .int .u8 75] 5 (4,5))).alloc (.cells #[.int .u8 2] 5))):=aZ (aZ (Below.refl _ _))
 have HC:Hid (∀j v,([.int .u8 70, .int .u8 73, .int .u8 82, .int .u8 75]:List Value)[j]? =some v->((w1.alloc (.cells #[.int .u8 70, .int .u8 73, .int .u8 82, .int .u8 75] 5 (4,5))).alloc (.cells #[.int .u8 2] 5)).cell? ((⟨w1.heap.size,0,none⟩:Addr).add j)=some v):=fun j v hj=>by
  have e:=(aZ (Below.refl (w1.alloc (.cells #[.int .u8 70, .int .u8 73, .int .u8 82, .int .u8 75] 5 (4,5))).heap.size (w1.alloc (.cells #[.int .u8 70, .int .u8 73, .int .u8 82, .int .u8 75] 5 (4,5)))) (o:=(.cells #[.int .u8 2] 5))).cell (p:=⟨w1.heap.size,j,none⟩) (by simp)
  rw[add_none,Nat.zero_add,e,World.cell?_alloc_mark]
  simpa using hj
 have HN:Hid (∀j v,([.int .u8 2]:List Value)[j]? =some v->((w1.alloc (.cells #[.int .u8 70, .int .u8 73, .int .u8 82, .int .u8 75] 5 (4,5))).alloc (.cells #[.int .u8 2] 5)).cell? ((⟨w1.heap.size+1,0,none⟩:Addr).add j)=some v):=fun j v hj=>by
  have hb:Blk ((w1.alloc (.cells #[.int .u8 70, .int .u8 73, .int .u8 82, .int .u8 75] 5 (4,5))).alloc (.cells #[.int .u8 2] 5)) (w1.heap.size+1) 5 #[.int .u8 2]:=Blk.made_at _ _ _ (by simp)
  rw[add_none,Nat.zero_add,hb.cell]
  simpa using hj
 go_wp2_with(at_builtin;refine mqZ rfl (.tmp 8) (.tmp 11) 22 rfl 5 j0 Tryz.underlying22 hj0 hy0 hy1 hy2 ⟨w1.heap.size,0,none⟩ 4 4 [.int .u8 70, .int .u8 73, .int .u8 82, .int .u8 75] (by rfl) rfl HC.out _ 1 1 [.int .u8 2] (by rfl) rfl HN.out (by omega) (by omega) ?_;intro v4 w4 hown4 hb4)
 go_ret2
 exact⟨_,rfl,lZ hown4 HB.out.size,dZ hb4 HB.out⟩
theorem biZb(w:World)(S K:Nat)(pl:Bool)(da pa ch:Int)(hS:S<=32768)(hK:K<=64)(ht:TabAt w):
 Calls Tryz.prog 79 #[(Opt.val ⟨(S:Nat),pl,(K:Nat),da,pa,ch⟩)] w fun e w'=>∃v,e= .returned v/\w'.ownsRow w.heap.size 5 1 v (neZ S (zgZ pl) K).length (cZ .u8 (neZ S (zgZ pl) K))/\Below w.heap.size w w':=by
 unfold Opt.val
 simp only
 have D4:=hid (fun wx=>feZb wx)
 have D5:=hid (fun wx=>pcZ wx S (by omega))
 have D6:=hid (fun wx=>pcZ wx K (by omega))
 have u1:IntKind.u64.wrap (S:Int)=(S:Int):=by rw[IntKind.wrap_u64];omega
 have u2:IntKind.u64.wrap (K:Int)=(K:Int):=by rw[IntKind.wrap_u64];omega
 have hl:=hnZ (S:=S) (K:=K) (fl:=zgZ pl) hS hK
 have H8a:=xpZ (S:=S) (fl:=zgZ pl) (K:=K) (by unfold zgZ;split<;>omega)
 have hx1:=rZ (x:=S) (by omega)
 have hx2:=rZ (x:=K) (by omega)
 obtain⟨HC,hHC⟩:∃HC,HC=neZ S (zgZ pl) K:=⟨_,rfl⟩
 rw[<-hHC]
 unfold neZ at hHC
 obtain⟨H0,hH0⟩:∃H0,H0=diZ S (zgZ pl) K:=⟨_,rfl⟩
 rw[<-hH0]at hHC hl H8a
 obtain⟨h0,hh0⟩:∃h0,h0=H0.length:=⟨_,rfl⟩
 rw[<-hh0]at hl
 have HHC:=hid hHC
 have H8:=hid H8a
 unfold diZ at hH0
 generalize nZ S=X1 at *
 generalize nZ K=X2 at *
 have HH:Hid (H0=adZ 2++(X1++([zgZ pl]++(X2++ [])))/\H0.length=h0):=⟨hH0,hh0.symm⟩
 clear hHC H8a hH0 hh0 hS hK
 cases pl with
 |true=>
  have HH0:Hid (H0=adZ 2++(X1++([1]++(X2++ [])))/\H0.length=h0):=HH
  clear HH
  go_enter Tryz.func79,Tryz.ntmps79
  go_wp2_with fail
  have hba:Blk (w.alloc (.cells #[.int .i64 S, .bool true, .int .i64 K, .int .i64 da, .int .i64 pa, .int .i64 ch] 25)) w.heap.size 25 #[.int .i64 S, .bool true, .int .i64 K, .int .i64 da, .int .i64 pa, .int .i64 ch]:=Blk.made _ _ _
  have hbw:Below w.heap.size w (w.alloc (.cells #[.int .i64 S, .bool true, .int .i64 K, .int .i64 da, .int .i64 pa, .int .i64 ch] 25)):=aZ (Below.refl _ _)
  have hzw2:w.heap.size<(w.alloc (.cells #[.int .i64 S, .bool true, .int .i64 K, .int .i64 da, .int .i64 pa, .int .i64 ch] 25)).heap.size:=by simp
  generalize w.alloc (.cells #[.int .i64 S, .bool true, .int .i64 K, .int .i64 da, .int .i64 pa, .int .i64 ch] 25)=wa at *
  have HBW:=hid hbw
  have HS:Hid (∀wx,Below wa.heap.size wa wx->wx.cell? ⟨w.heap.size,0,none⟩=some (.int .i64 S)/\wx.cell? ⟨w.heap.size,2,none⟩=some (.int .i64 K)):=fun wx h=>⟨(hba.step h).cell 0,(hba.step h).cell 2⟩
  have HT:Hid (∀wx,Below w.heap.size w wx->TabAt wx):=fun wx h=>ht.step h
  clear hba hbw ht
  refine(D4.out _).mono ?_
  rintro e w4 ⟨vM,rfl,hoM,hb4⟩
  obtain⟨AM,cM,rfl⟩:=bZ hoM
  have B4:Hid (Below w.heap.size w w4):=dZ hb4 HBW.out
  have PM:Hid (Part.Ok (⟨AM,cM,adZ 2⟩:Part) w4):=oZ hoM rfl
  have HS4:Hid (∀wx,Below w4.heap.size w4 wx->wx.cell? ⟨w.heap.size,0,none⟩=some (.int .i64 S)/\wx.cell? ⟨w.heap.size,2,none⟩=some (.int .i64 K)):=fun wx h=>HS.out wx (dZ h hb4)
  have hs5:∀a1 a2 a3 a4 a5 a6 a7 a8,xcZ [(⟨a1,a2,adZ 2⟩:Part),⟨a3,a4,X1⟩,⟨a5,a6,[1]⟩,⟨a7,a8,X2⟩]<=1000000:=fun _ _ _ _ _ _ _ _=>by simp[xcZ,adZ];omega
  have HZ4:=hid B4.out.size
  clear hoM hb4 D4 HS HBW hzw2
  go_upto_region 5 with fail
  go_region_held3 (fun wx=>wx.cell? ⟨w.heap.size,0,none⟩=some (.int .i64 S)/\wx.cell? ⟨w.heap.size,2,none⟩=some (.int .i64 K)) (first|exact HS4.out _ ((Below.refl _ _).drew)|(refine HS4.out _ ?_;(repeat(first|(with_reducible first|exact Below.refl _ _|assumption|refine Below.drew ?_|refine below_drewN ?_ _|refine aZ ?_|refine dZ (by assumption) ?_)|((with_reducible first|refine fZ ?_ ?_|refine gZ ?_ ?_|refine iZ (by assumption) ?_ ?_);(focus(first|(simp;done)|(simp;omega)|omega|(simp at *;omega)))))))) (first|(go_at_call 98;first|((with_reducible refine(D5.out _).mono ?_);rintro e wA ⟨vA,rfl,hoA,hbA⟩;obtain⟨AA,cA,rfl⟩:=bZ hoA;have PA:Part.Ok (⟨AA,cA,X1⟩:Part) wA:=oZ hoA rfl)|((with_reducible refine(D6.out _).mono ?_);rintro e wB ⟨vB,rfl,hoB,hbB⟩;obtain⟨AB,cB,rfl⟩:=bZ hoB;have PB:Part.Ok (⟨AB,cB,X2⟩:Part) wB:=oZ hoB rfl))|(go_at_call 59;(refine(ffZ _ _ 4 [(⟨AM,cM,adZ 2⟩:Part),(⟨AA,cA,X1⟩:Part),(⟨_,1,[1]⟩:Part),(⟨AB,cB,X2⟩:Part)] rfl (by omega) (hs5 _ _ _ _ _ _ _ _) (fun p hp=>by{rcases List.mem_cons.1 hp with rfl|hp;exact PM.out.step (by(repeat(first|(with_reducible first|exact Below.refl _ _|assumption|refine Below.drew ?_|refine below_drewN ?_ _|refine aZ ?_|refine dZ (by assumption) ?_)|((with_reducible first|refine fZ ?_ ?_|refine gZ ?_ ?_|refine iZ (by assumption) ?_ ?_);(focus(first|(simp;done)|(simp;omega)|omega|(simp at *;omega)))))));rcases List.mem_cons.1 hp with rfl|hp;exact PA.step (by(repeat(first|(with_reducible first|exact Below.refl _ _|assumption|refine Below.drew ?_|refine below_drewN ?_ _|refine aZ ?_|refine dZ (by assumption) ?_)|((with_reducible first|refine fZ ?_ ?_|refine gZ ?_ ?_|refine iZ (by assumption) ?_ ?_);(focus(first|(simp;done)|(simp;omega)|omega|(simp at *;omega)))))));rcases List.mem_cons.1 hp with rfl|hp;exact Part.Ok.step (aiZb _) (by(repeat(first|(with_reducible first|exact Below.refl _ _|assumption|refine Below.drew ?_|refine below_drewN ?_ _|refine aZ ?_|refine dZ (by assumption) ?_)|((with_reducible first|refine fZ ?_ ?_|refine gZ ?_ ?_|refine iZ (by assumption) ?_ ?_);(focus(first|(simp;done)|(simp;omega)|omega|(simp at *;omega)))))));rcases List.mem_cons.1 hp with rfl|hp;exact PB.step (by(repeat(first|(with_reducible first|exact Below.refl _ _|assumption|refine Below.drew ?_|refine below_drewN ?_ _|refine aZ ?_|refine dZ (by assumption) ?_)|((with_reducible first|refine fZ ?_ ?_|refine gZ ?_ ?_|refine iZ (by assumption) ?_ ?_);(focus(first|(simp;done)|(simp;omega)|omega|(simp at *;omega)))))));cases hp}) (by first|exact Blk.made _ _ _|exact Blk.made_at _ _ _ (by simp)|exact Blk.drew (Blk.made _ _ _)|exact Blk.drew (Blk.made_at _ _ _ (by simp)))).mono ?_);rintro e w7 ⟨v7,rfl,ho7,hb7⟩;have B7:Below w4.heap.size w4 w7:=dZ hb7 (by(repeat(first|(with_reducible first|exact Below.refl _ _|assumption|refine Below.drew ?_|refine below_drewN ?_ _|refine aZ ?_|refine dZ (by assumption) ?_)|((with_reducible first|refine fZ ?_ ?_|refine gZ ?_ ?_|refine iZ (by assumption) ?_ ?_);(focus(first|(simp;done)|(simp;omega)|omega|(simp at *;omega)))))));have h7:=lZ ho7 (show w4.heap.size<=_ from Below.size (by(repeat(first|(with_reducible first|exact Below.refl _ _|assumption|refine Below.drew ?_|refine below_drewN ?_ _|refine aZ ?_|refine dZ (by assumption) ?_)|((with_reducible first|refine fZ ?_ ?_|refine gZ ?_ ?_|refine iZ (by assumption) ?_ ?_);(focus(first|(simp;done)|(simp;omega)|omega|(simp at *;omega))))))));rw[show [(⟨AM,cM,adZ 2⟩:Part),(⟨AA,cA,X1⟩:Part),(⟨_,1,[1]⟩:Part),(⟨AB,cB,X2⟩:Part)].flatMap Part.ls=H0 from HH0.out.1.symm,HH0.out.2]at h7;obtain⟨A7,c7,rfl⟩:=bZ h7;have P7:Part.Ok (⟨A7,c7,H0⟩:Part) w7:=oZ h7 HH0.out.2)|(go_at_call 53;(refine(put_any w7 A7 h0 c7 H0 HH0.out.2 (by omega) (by have h:=P7.nil;rw[HH0.out.2]at h;exact h) H8.out (HT.out _ (dZ B7 B4.out)) (by have h:=P7.row;simp only[HH0.out.2]at h;exact h)).mono ?_);unfold ceZ;rintro e w8 ⟨v8,rfl,ho8,hb8⟩;have HO8:=hid (lZ ho8 B7.size);have HB8:=hid (dZ hb8 B7)))
  all_goals
   clear hbA hoA hbB hoB hb7 ho7 h7 P7 PA PB ho8 hb8 B7
   go_wp2_with fail
   go_ret
   refine⟨_,rfl,?_,dZ HB8.out B4.out⟩
   have h:=lZ HO8.out HZ4.out
   rw[HHC.out]
   have e2:(H0++tbZ (bcZ H0)).length=H0.length+4:=by rw[List.length_append];rfl
   rw[e2]
   exact h
 |false=>
  have HH0:Hid (H0=adZ 2++(X1++([0]++(X2++ [])))/\H0.length=h0):=HH
  clear HH
  go_enter Tryz.func79,Tryz.ntmps79
  go_wp2_with fail
  have hba:Blk (w.alloc (.cells #[.int .i64 S, .bool false, .int .i64 K, .int .i64 da, .int .i64 pa, .int .i64 ch] 25)) w.heap.size 25 #[.int .i64 S, .bool false, .int .i64 K, .int .i64 da, .int .i64 pa, .int .i64 ch]:=Blk.made _ _ _
  have hbw:Below w.heap.size w (w.alloc (.cells #[.int .i64 S, .bool false, .int .i64 K, .int .i64 da, .int .i64 pa, .int .i64 ch] 25)):=aZ (Below.refl _ _)
  have hzw2:w.heap.size<(w.alloc (.cells #[.int .i64 S, .bool false, .int .i64 K, .int .i64 da, .int .i64 pa, .int .i64 ch] 25)).heap.size:=by simp
  generalize w.alloc (.cells #[.int .i64 S, .bool false, .int .i64 K, .int .i64 da, .int .i64 pa, .int .i64 ch] 25)=wa at *
  have HBW:=hid hbw
  have HS:Hid (∀wx,Below wa.heap.size wa wx->wx.cell? ⟨w.heap.size,0,none⟩=some (.int .i64 S)/\wx.cell? ⟨w.heap.size,2,none⟩=some (.int .i64 K)):=fun wx h=>⟨(hba.step h).cell 0,(hba.step h).cell 2⟩
  have HT:Hid (∀wx,Below w.heap.size w wx->TabAt wx):=fun wx h=>ht.step h
  clear hba hbw ht
  refine(D4.out _).mono ?_
  rintro e w4 ⟨vM,rfl,hoM,hb4⟩
  obtain⟨AM,cM,rfl⟩:=bZ hoM
  have B4:Hid (Below w.heap.size w w4):=dZ hb4 HBW.out
  have PM:Hid (Part.Ok (⟨AM,cM,adZ 2⟩:Part) w4):=oZ hoM rfl
  have HS4:Hid (∀wx,Below w4.heap.size w4 wx->wx.cell? ⟨w.heap.size,0,none⟩=some (.int .i64 S)/\wx.cell? ⟨w.heap.size,2,none⟩=some (.int .i64 K)):=fun wx h=>HS.out wx (dZ h hb4)
  have hs5:∀a1 a2 a3 a4 a5 a6 a7 a8,xcZ [(⟨a1,a2,adZ 2⟩:Part),⟨a3,a4,X1⟩,⟨a5,a6,[0]⟩,⟨a7,a8,X2⟩]<=1000000:=fun _ _ _ _ _ _ _ _=>by simp[xcZ,adZ];omega
  have HZ4:=hid B4.out.size
  clear hoM hb4 D4 HS HBW hzw2
  go_upto_region 5 with fail
  go_region_held3 (fun wx=>wx.cell? ⟨w.heap.size,0,none⟩=some (.int .i64 S)/\wx.cell? ⟨w.heap.size,2,none⟩=some (.int .i64 K)) (first|exact HS4.out _ ((Below.refl _ _).drew)|(refine HS4.out _ ?_;(repeat(first|(with_reducible first|exact Below.refl _ _|assumption|refine Below.drew ?_|refine below_drewN ?_ _|refine aZ ?_|refine dZ (by assumption) ?_)|((with_reducible first|refine fZ ?_ ?_|refine gZ ?_ ?_|refine iZ (by assumption) ?_ ?_);(focus(first|(simp;done)|(simp;omega)|omega|(simp at *;omega)))))))) (first|(go_at_call 98;first|((with_reducible refine(D5.out _).mono ?_);rintro e wA ⟨vA,rfl,hoA,hbA⟩;obtain⟨AA,cA,rfl⟩:=bZ hoA;have PA:Part.Ok (⟨AA,cA,X1⟩:Part) wA:=oZ hoA rfl)|((with_reducible refine(D6.out _).mono ?_);rintro e wB ⟨vB,rfl,hoB,hbB⟩;obtain⟨AB,cB,rfl⟩:=bZ hoB;have PB:Part.Ok (⟨AB,cB,X2⟩:Part) wB:=oZ hoB rfl))|(go_at_call 59;(refine(ffZ _ _ 4 [(⟨AM,cM,adZ 2⟩:Part),(⟨AA,cA,X1⟩:Part),(⟨_,1,[0]⟩:Part),(⟨AB,cB,X2⟩:Part)] rfl (by omega) (hs5 _ _ _ _ _ _ _ _) (fun p hp=>by{rcases List.mem_cons.1 hp with rfl|hp;exact PM.out.step (by(repeat(first|(with_reducible first|exact Below.refl _ _|assumption|refine Below.drew ?_|refine below_drewN ?_ _|refine aZ ?_|refine dZ (by assumption) ?_)|((with_reducible first|refine fZ ?_ ?_|refine gZ ?_ ?_|refine iZ (by assumption) ?_ ?_);(focus(first|(simp;done)|(simp;omega)|omega|(simp at *;omega)))))));rcases List.mem_cons.1 hp with rfl|hp;exact PA.step (by(repeat(first|(with_reducible first|exact Below.refl _ _|assumption|refine Below.drew ?_|refine below_drewN ?_ _|refine aZ ?_|refine dZ (by assumption) ?_)|((with_reducible first|refine fZ ?_ ?_|refine gZ ?_ ?_|refine iZ (by assumption) ?_ ?_);(focus(first|(simp;done)|(simp;omega)|omega|(simp at *;omega)))))));rcases List.mem_cons.1 hp with rfl|hp;exact Part.Ok.step (eeZb _) (by(repeat(first|(with_reducible first|exact Below.refl _ _|assumption|refine Below.drew ?_|refine below_drewN ?_ _|refine aZ ?_|refine dZ (by assumption) ?_)|((with_reducible first|refine fZ ?_ ?_|refine gZ ?_ ?_|refine iZ (by assumption) ?_ ?_);(focus(first|(simp;done)|(simp;omega)|omega|(simp at *;omega)))))));rcases List.mem_cons.1 hp with rfl|hp;exact PB.step (by(repeat(first|(with_reducible first|exact Below.refl _ _|assumption|refine Below.drew ?_|refine below_drewN ?_ _|refine aZ ?_|refine dZ (by assumption) ?_)|((with_reducible first|refine fZ ?_ ?_|refine gZ ?_ ?_|refine iZ (by assumption) ?_ ?_);(focus(first|(simp;done)|(simp;omega)|omega|(simp at *;omega)))))));cases hp}) (by first|exact Blk.made _ _ _|exact Blk.made_at _ _ _ (by simp)|exact Blk.drew (Blk.made _ _ _)|exact Blk.drew (Blk.made_at _ _ _ (by simp)))).mono ?_);rintro e w7 ⟨v7,rfl,ho7,hb7⟩;have B7:Below w4.heap.size w4 w7:=dZ hb7 (by(repeat(first|(with_reducible first|exact Below.refl _ _|assumption|refine Below.drew ?_|refine below_drewN ?_ _|refine aZ ?_|refine dZ (by assumption) ?_)|((with_reducible first|refine fZ ?_ ?_|refine gZ ?_ ?_|refine iZ (by assumption) ?_ ?_);(focus(first|(simp;done)|(simp;omega)|omega|(simp at *;omega)))))));have h7:=lZ ho7 (show w4.heap.size<=_ from Below.size (by(repeat(first|(with_reducible first|exact Below.refl _ _|assumption|refine Below.drew ?_|refine below_drewN ?_ _|refine aZ ?_|refine dZ (by assumption) ?_)|((with_reducible first|refine fZ ?_ ?_|refine gZ ?_ ?_|refine iZ (by assumption) ?_ ?_);(focus(first|(simp;done)|(simp;omega)|omega|(simp at *;omega))))))));rw[show [(⟨AM,cM,adZ 2⟩:Part),(⟨AA,cA,X1⟩:Part),(⟨_,1,[0]⟩:Part),(⟨AB,cB,X2⟩:Part)].flatMap Part.ls=H0 from HH0.out.1.symm,HH0.out.2]at h7;obtain⟨A7,c7,rfl⟩:=bZ h7;have P7:Part.Ok (⟨A7,c7,H0⟩:Part) w7:=oZ h7 HH0.out.2)|(go_at_call 53;(refine(put_any w7 A7 h0 c7 H0 HH0.out.2 (by omega) (by have h:=P7.nil;rw[HH0.out.2]at h;exact h) H8.out (HT.out _ (dZ B7 B4.out)) (by have h:=P7.row;simp only[HH0.out.2]at h;exact h)).mono ?_);unfold ceZ;rintro e w8 ⟨v8,rfl,ho8,hb8⟩;have HO8:=hid (lZ ho8 B7.size);have HB8:=hid (dZ hb8 B7)))
  all_goals
   clear hbA hoA hbB hoB hb7 ho7 h7 P7 PA PB ho8 hb8 B7
   go_wp2_with fail
   go_ret
   refine⟨_,rfl,?_,dZ HB8.out B4.out⟩
   have h:=lZ HO8.out HZ4.out
   rw[HHC.out]
   have e2:(H0++tbZ (bcZ H0)).length=H0.length+4:=by rw[List.length_append];rfl
   rw[e2]
   exact h
end Go.Proofs.YtbgoibedicbkjaaGreatDoor.Two
namespace Go.Proofs.YtbgoibedicbkjaaGreatDoor.Two
open Go.RowKit Mem Go.Proofs.YtbgoibedicbkjaaGreatDoor.Own Canon NumPut Crc
open Recs Opts Go.Proofs.YtbgoibedicbkjaaGreatDoor.One Go.Proofs.YtbgoibedicbkjaaGreatDoor.Body Idx
open Go.Proofs.YtbgoibedicbkjaaGreatDoor.Block (oZ ieZ)
theorem le_sum{L:List Nat}{x:Nat}(h:x∈L):x<=L.sum:=by
 induction L with
 |nil=>cases h
 |cons y t ih=>
  rw[List.sum_cons]
  rcases List.mem_cons.1 h with rfl|h
  ·omega
  ·have:=ih h;omega
theorem ltZ{o:Opt}{l:List Rec}{n:Nat}(hn:l.length=n)(hN:n<=1000)(hok:∀r∈l,whZ r)(hb:(ifZ false l).length<=16000)(hix:(ixR o l).length<=99000):(aiZ o l).length<=300000:=by
 have h1:=rkZ false o.plain (rcZ o l) l hb
 have h2:=ooZ o l
 have h3:=anZ hok (by omega)
 have h4:=noZ o l
 have h5:∀z∈(nfZ false o.plain (rcZ o l) l).map List.length,z<=1000000000:=fun z hz=>by
  have:=le_sum hz
  rw[<-List.length_flatten]at this
  omega
 have h6:=ewZ (n:=l.length) (G:=rcZ o l) (S:=(nfZ false o.plain (rcZ o l) l).map List.length) (x:=(dbZ (bgZ l)).length) (y:=(dbZ (ixR o l)).length) (by omega) (by omega) (fun z hz=>by have:=le_sum hz;omega) h5 (by rw[tcZ];omega) (by rw[tcZ];omega)
 unfold aiZ aeZ
 simp only[List.length_append,tcZ]at h6 ⊢
 have h7:∀x,(xeZ x).length=4:=fun _=>rfl
 rw[h7]
 omega
def blZ(o:Opt)(l:List Rec):Int:=if mdZ o≠0 then mdZ o else euZ o l
def inZ(o:Opt)(l:List Rec):List Nat:=if blZ o l=0 then neZ o.block.toNat (zgZ o.plain) o.bucket.toNat++unZ o l else []
def vrZ(o:Opt)(l:List Rec)(w:World)(e:Ending)(w':World):Prop:=
 ∃v,e= .returned (.tuple #[v, .int .i64 (blZ o l)])/\w'.ownsRow w.heap.size 5 1 v (inZ o l).length (cZ .u8 (inZ o l))/\Below w.heap.size w w'
end Go.Proofs.YtbgoibedicbkjaaGreatDoor.Two
namespace Go.Proofs.YtbgoibedicbkjaaGreatDoor.Two
open Go.RowKit Mem Go.Proofs.YtbgoibedicbkjaaGreatDoor.Own Canon NumPut Crc
open Recs Opts Go.Proofs.YtbgoibedicbkjaaGreatDoor.One Go.Proofs.YtbgoibedicbkjaaGreatDoor.Body Idx
open Go.Proofs.YtbgoibedicbkjaaGreatDoor.Block (oZ ieZ)
theorem geZb(w:World)(S fl K:Nat)(hS:S<=32768)(hK:K<=64)(hf1:fl<=1):
 Calls Tryz.prog 31 #[.int .i64 S, .int .u8 fl, .int .i64 K] w fun e w'=>∃v,e= .returned v/\w'.ownsRow w.heap.size 5 1 v (neZ S fl K).length (cZ .u8 (neZ S fl K))/\Below w.heap.size w w':=by
 obtain⟨j0,hj0,hy0,hy1,hy2⟩:=info_parts acZ
 have D1:=hid (fun wx=>teZ wx S (by omega))
 have D2:=hid (fun wx=>teZ wx K (by omega))
 have l1:=rZ (x:=S) (by omega)
 have l2:=rZ (x:=K) (by omega)
 have u1:IntKind.u64.wrap (S:Int)=(S:Int):=by rw[IntKind.wrap_u64];omega
 have u2:IntKind.u64.wrap (K:Int)=(K:Int):=by rw[IntKind.wrap_u64];omega
 have hl:=hnZ (S:=S) (K:=K) (fl:=fl) hS hK
 have H8a:=xpZ (S:=S) (fl:=fl) (K:=K) hf1
 unfold neZ
 obtain⟨H0,hH0⟩:∃H0,H0=diZ S fl K:=⟨_,rfl⟩
 rw[<-hH0]at hl H8a ⊢
 unfold diZ at hH0
 generalize nZ S=X1 at *
 generalize nZ K=X2 at *
 obtain⟨h0,hh0⟩:∃h0,h0=H0.length:=⟨_,rfl⟩
 rw[<-hh0]at hl
 have HH0:Hid (H0=adZ 2++(X1++([fl]++(X2++ [])))/\H0.length=h0):=⟨hH0,hh0.symm⟩
 have H8:=hid H8a
 obtain⟨x1,hx1⟩:∃x1,x1=X1.length:=⟨_,rfl⟩
 obtain⟨x2,hx2⟩:∃x2,x2=X2.length:=⟨_,rfl⟩
 rw[<-hx1]at D1 l1
 rw[<-hx2]at D2 l2
 have HX1:=hid hx1
 have HX2:=hid hx2
 clear hS hK H8a hH0 hh0 hx1 hx2
 go_enter Tryz.func31,Tryz.ntmps31
 go_wp2_with fail
 have hom:(w.alloc (.cells #[.int .u8 70, .int .u8 73, .int .u8 82, .int .u8 75, .int .u8 2] 5)).ownsRow w.heap.size 5 1 (.slice (some ⟨w.heap.size,0,none⟩) 5 5) 5 (cZ .u8 (adZ 2)):=wjZb (Nat.le_refl _) rfl (by unfold maxLen;omega)
 have hbw:Below w.heap.size w (w.alloc (.cells #[.int .u8 70, .int .u8 73, .int .u8 82, .int .u8 75, .int .u8 2] 5)):=aZ (Below.refl _ _)
 generalize w.alloc (.cells #[.int .u8 70, .int .u8 73, .int .u8 82, .int .u8 75, .int .u8 2] 5)=wa at *
 refine(D1.out _).mono ?_
 rintro e w1 ⟨v1,rfl,ho1,hb1⟩
 obtain⟨A1,c1,rfl⟩:=bZ ho1
 have HS1:Hid (Src w1 A1 x1 c1 1 (cZ .u8 X1)):=lbZ ho1
 have HB1:Hid (Below w.heap.size w w1):=dZ hb1 hbw
 have HO1:Hid (w1.ownsRow w.heap.size 5 1 (.slice (some ⟨w.heap.size,0,none⟩) 5 5) 5 (cZ .u8 (adZ 2))):=eZ hom (fun y hy=>hb1.block y (World.ownsRow.lt hom y hy).2)
 have hz1:=HB1.out.size
 clear ho1 hb1 hom hbw D1
 go_wp2_with(first|(at_builtin;refine kZ rfl (.tmp 9) (.tmp 12) 22 rfl w.heap.size 5 j0 _ 1 1 Tryz.underlying22 hj0 hy0 hy1 hy2 rfl (by decide) _ _ _ (by rfl) HO1.out _ _ _ _ (by rfl) HS1.out (wZ _ _) (by unfold maxLen;omega) (by omega) hz1 ?_;intro v2 w2 hown2 hg2 hat2;have HB2:Hid (Below w.heap.size w w2):=HB1.out.grown hg2 hz1 (fun y hy=>(World.ownsRow.lt HO1.out y hy).1);have HO2:Hid (w2.ownsRow w.heap.size 5 1 v2 (5+x1) (cZ .u8 (adZ 2)++cZ .u8 X1)):=hown2;have hz2:=HB2.out.size;clear hown2 hg2 hat2 HO1 HS1 HB1 hz1)|(at_builtin;refine kZ rfl (.tmp 14) (.tmp 16) 22 rfl w.heap.size 5 j0 _ 1 1 Tryz.underlying22 hj0 hy0 hy1 hy2 rfl (by decide) _ _ _ (by rfl) (HO2.out.alloc _) _ 1 1 [.int .u8 (fl:Nat)] (by rfl) (Src.of_blk (g:=w2.heap.size) (Blk.made _ _ _) 1 1 1 rfl) (by intro u hu;simp at hu;rcases hu with rfl;rfl) (by unfold maxLen;omega) (by omega) (by simp;omega) ?_;intro v3 w3 hown3 hg3 hat3;have HB3:Hid (Below w.heap.size w w3):=(HB2.out.alloc hz2 _).grown hg3 (by simp;omega) (fun y hy=>(World.ownsRow.lt HO2.out y hy).1);have HO3:Hid (w3.ownsRow w.heap.size 5 1 v3 (5+x1+1) (cZ .u8 (adZ 2)++cZ .u8 X1++ [.int .u8 (fl:Nat)])):=hown3;clear hown3 hg3 hat3 HO2 HB2 hz2))
 refine(D2.out _).mono ?_
 rintro e w4 ⟨v4,rfl,ho4,hb4⟩
 obtain⟨A4,c4,rfl⟩:=bZ ho4
 have HS4:Hid (Src w4 A4 x2 c4 1 (cZ .u8 X2)):=lbZ ho4
 have HB4:Hid (Below w.heap.size w w4):=dZ hb4 HB3.out
 have HO4:Hid (w4.ownsRow w.heap.size 5 1 v3 (5+x1+1) (cZ .u8 (adZ 2)++cZ .u8 X1++ [.int .u8 (fl:Nat)])):=eZ HO3.out (fun y hy=>hb4.block y (World.ownsRow.lt HO3.out y hy).2)
 have hz4:=HB4.out.size
 clear ho4 hb4 HO3 HB3 D2
 go_wp2_with(at_builtin;refine kZ rfl (.tmp 18) (.tmp 21) 22 rfl w.heap.size 5 j0 _ 1 1 Tryz.underlying22 hj0 hy0 hy1 hy2 rfl (by decide) _ _ _ (by rfl) HO4.out _ _ _ _ (by rfl) HS4.out (wZ _ _) (by unfold maxLen;omega) (by omega) hz4 ?_;intro v5 w5 hown5 hg5 hat5;have HB5:Hid (Below w.heap.size w w5):=HB4.out.grown hg5 hz4 (fun y hy=>(World.ownsRow.lt HO4.out y hy).1);have HO5:Hid (w5.ownsRow w.heap.size 5 1 v5 (5+x1+1+x2) (cZ .u8 (adZ 2)++cZ .u8 X1++ [.int .u8 (fl:Nat)]++cZ .u8 X2)):=hown5;clear hown5 hg5 hat5 HO4 HS4 HB4 hz4)
 have hH5:Hid (w5.ownsRow w.heap.size 5 1 v5 h0 (cZ .u8 H0)):=by
  show w5.ownsRow w.heap.size 5 1 v5 h0 (cZ .u8 H0)
  have h:=HO5.out
  have e1:cZ .u8 (adZ 2)++cZ .u8 X1++ [.int .u8 (fl:Nat)]++cZ .u8 X2=cZ .u8 H0:=by
   rw[HH0.out.1]
   simp[cZ]
  have e2:5+x1+1+x2=h0:=by
   rw[<-HH0.out.2,HH0.out.1,HX1.out,HX2.out]
   simp[adZ]
   omega
  rw[e1,e2]at h
  exact h
 clear HO5
 obtain⟨A5,c5,rfl⟩:=bZ hH5.out
 have P5:Hid (Part.Ok (⟨A5,c5,H0⟩:Part) w5):=oZ hH5.out HH0.out.2
 refine(gkZ w5 A5 h0 c5 H0 HH0.out.2 (by omega) (by have h:=P5.out.nil;rw[HH0.out.2]at h;exact h) H8.out (by have h:=P5.out.row;simp only[HH0.out.2]at h;exact h)).mono ?_
 unfold ceZ
 rintro e w8 ⟨v8,rfl,ho8,hb8⟩
 have HO8:=hid (lZ ho8 HB5.out.size)
 have HB8:=hid (dZ hb8 HB5.out)
 clear ho8 hb8
 go_wp2_with fail
 go_ret
 refine⟨_,rfl,?_,HB8.out⟩
 have e2:(H0++tbZ (bcZ H0)).length=H0.length+4:=by rw[List.length_append];rfl
 rw[e2,HH0.out.2]
 have h:=HO8.out
 first|exact h|(rw[HH0.out.2]at h;exact h)
end Go.Proofs.YtbgoibedicbkjaaGreatDoor.Two
namespace Go.Proofs.YtbgoibedicbkjaaGreatDoor.Two
open Go.RowKit Mem Go.Proofs.YtbgoibedicbkjaaGreatDoor.Own Canon NumPut Crc
open Recs Opts Go.Proofs.YtbgoibedicbkjaaGreatDoor.One Go.Proofs.YtbgoibedicbkjaaGreatDoor.Body Idx
open Go.Proofs.YtbgoibedicbkjaaGreatDoor.Block (oZ ieZ)
theorem fyZ{P:Program}{w:World}{ops:Array Oper}{rest:List Oper}{o:Oper}{a:Act}{Q:Exit->Act->World->Prop}(hgw:Region.wanted o (yielded ops a.tmps)=true)(s x:Operand)(t:TypeId)
 (ho:o.op= .call {callee:= .builtin .append,args:=#[s,x],argTypes:=#[t,t] })
 (base:Nat)(e:TypeId)(i:TypeInfo)(z:Value)(size bytes:Nat)(ht:P.underlying t=some (.slice e))(hi:P.info? e=some i)(hz:i.zero=some z)
 (hsize:i.size=size)(hby:i.bytes=bytes)(hzs:z.cells.size=size)(hsz:0<size)
 (v:Value)(n:Nat)(xs:List Value)(hs:a.eval s=v)(hown:w.ownsRow base e size v n xs)
 (A:Option Addr)(m c:Nat)(news:List Value)(hx:a.eval x= .slice A m c)(hsrc:Src w A m c size news)(h1:∀u∈news,u.oneCell'=true)
 (h63:n+m<=maxLen)(hbytes:(n+m)*bytes<=140737488355328)(hbase:base<=w.heap.size)
 (h:∀v' w',w'.ownsRow base e size v' (n+m) (xs++news)->w.grownBy w' v.ownBlock->(v'.ownBlock=v.ownBlock∨v'.ownBlock=some w.heap.size)->wpList P ops Q rest (a.put o.dst v') w'):wpList P ops Q (o :: rest) a w:=by
 refine wpList_step fun K hK=> ?_
 rw[if_pos hgw]
 obtain⟨v',w',hr,h2,h3,h5⟩:=ojZ (P:=P) w base t o.type e i z size bytes ht hi hz hsize hby hzs hsz v n xs hown A m c news hsrc h1 h63 hbytes hbase
 unfold Oper.wp execOp
 simp only[ho,resolve,invoke,builtin,Sem.run_bind,Sem.run_pure,Result.andThen_ok,List.map_toArray,List.map_cons,List.map_nil,hs,hx,hr]
 exact hK _ _ (h v' w' h2 h3 h5)
theorem lzZ:blZ exB []=0/\inZ exB []=neZ 16 0 1++aeZ 0 [] [] [] [0]:=by
 have hE:blZ exB []=0:=by decide
 refine⟨hE,?_⟩
 have h1:unZ exB []=aeZ 0 [] [] [] [0]:=by
  unfold unZ
  rw[if_pos (by decide),kzZ]
 unfold inZ
 rw[if_pos hE,h1]
 rfl
end Go.Proofs.YtbgoibedicbkjaaGreatDoor.Two
namespace Go.Proofs.YtbgoibedicbkjaaGreatDoor.Idx
open Go.RowKit Go.Maps Mem Go.Proofs.YtbgoibedicbkjaaGreatDoor.Own Canon Sift
open Recs Go.Proofs.YtbgoibedicbkjaaGreatDoor
theorem heZb(w:World)(A:Option Addr)(n c:Nat)(l:List Rec)(hn:l.length=n)(hN:n<=20000)(hn0:n<=0)(ha:Row w w.heap.size A n 4 (veZ l)):
 Calls Tryz.prog 56 #[.slice A n c] w (cwZ (l.map abZ) w):=by
 obtain⟨j0,hj0,hy0,hy1,hy2⟩:=info_parts wdZb
 have HN:=hid hn
 have HN0:=hid hn0
 have hmm:=@run_makeMap Tryz.prog
 unfold cwZ
 clear hn hn0
 go_enter Tryz.func56,Tryz.ntmps56
 go_wp2_with fail
 have hbx:Blk (w.alloc (.cells #[.slice none 0 0, .slice none 0 0] 36)) w.heap.size 36 #[.slice none 0 0, .slice none 0 0]:=Blk.made _ _ _
 have hb0:Below w.heap.size w (w.alloc (.cells #[.slice none 0 0, .slice none 0 0] 36)):=aZ (Below.refl _ _)
 have hz0:(w.alloc (.cells #[.slice none 0 0, .slice none 0 0] 36)).heap.size=w.heap.size+1:=by simp
 generalize w.alloc (.cells #[.slice none 0 0, .slice none 0 0] 36)=w1 at *
 rw[<-hz0]
 have HM2:Hid (MI (w1.alloc (.map #[] 0)) w1.heap.size 0 w.heap.size (.map []) (fun _=> []) (fun _=> .slice none 0 0)):=MI.start w1 w.heap.size
 have HX2:=hid (hbx.alloc (.map #[] 0))
 have HB2:Hid (Below w.heap.size w (w1.alloc (.map #[] 0))):=aZ hb0
 obtain⟨mb,hmb⟩:∃mb,mb=w1.heap.size:=⟨_,rfl⟩
 rw[<-hmb]at HM2 ⊢
 have HMB:Hid (w.heap.size<=mb):=by show _<=_;rw[hmb];exact hb0.size
 generalize w1.alloc (.map #[] 0)=w2 at *
 clear hbx hb0 hz0 hmb hmm
 go_loopw [14] (fun iv wr=>∃ (k m:Nat) (D:DataW Value) (V:Str->Value),k<=n/\m<=100000*k/\iv= .int .i64 k/\Hid (MI wr mb m w.heap.size D (weZ ((l.take k).map abZ)) V)/\Hid (Blk wr w.heap.size 36 #[.slice none 0 0, .slice none 0 0])/\Hid (Below w.heap.size w wr)) (fun iv _=>n-(intOf iv).toNat)
 case atStart=>exact⟨0,0, .map [],fun _=> .slice none 0 0,by omega,by omega,rfl,HM2.out,HX2.out,HB2.out⟩
 case round=>
  obtain⟨k,m,D,V,hk,hm,rfl,HM,HX,HB⟩:=hrel
  clear HM2 HX2 HB2
  obtain⟨w0,rfl⟩:∃w0:World,w0=wr:=⟨_,rfl⟩
  by_cases hlt:k<n
  ·exact absurd hlt (by have:=HN0.out;omega)
  ·obtain rfl:k=n:=by omega
   have gk:decide ((k:Int)<(k:Int))=false:=by simp
   have gk':decide (k<k)=false:=by simp
   have hall:l.take k=l:=List.take_of_length_le (by rw[HN.out];exact Nat.le_refl _)
   rw[hall]at HM
   have hlen:(l.map abZ).length=k:=by rw[List.length_map,HN.out]
   obtain⟨TS,hTS⟩:∃TS,TS=l.map abZ:=⟨_,rfl⟩
   rw[<-hTS]at HM hlen
   have HTSE:=hid hTS
   have HLEN:=hid hlen
   clear hall hTS hlen ha
   have hbx:Blk (w0.alloc (.cells #[.slice none 0 0, .slice none 0 0] 36)) w0.heap.size 36 #[.slice none 0 0, .slice none 0 0]:=Blk.made _ _ _
   have hb1:Below w0.heap.size w0 (w0.alloc (.cells #[.slice none 0 0, .slice none 0 0] 36)):=aZ (Below.refl _ _)
   obtain⟨bo,hbo⟩:∃bo,bo=w0.heap.size:=⟨_,rfl⟩
   go_wp2_with fail
   rw[<-hbo]at hbx ⊢
   have hbl:w.heap.size<bo:=by rw[hbo];exact HX.out.lt
   generalize w0.alloc (.cells #[.slice none 0 0, .slice none 0 0] 36)=w3 at *
   have HM3:=hid (HM.out.step hb1)
   have HX3:=hid (HX.out.step hb1)
   have HB3:Hid (Below w.heap.size w w3):=dZ hb1 HB.out
   have HBX3:=hid hbx
   have hms:=rhZb HM3.out.map
   have hm2:m<=2000000000:=by omega
   have DK:=hid (callsIn_wide.1 (Tryz.maps_Keys_106 (some mb) w3))
   have DS:=hid (callsIn_wide.1 (Tryz.slices_Sorted_keys_105_106 mb m D xaZb w3 HM3.out.map (by unfold maxLen;omega) (by omega)))
   clear hb1 hbx HM HX HB hbo
   refine DK.out.mono ?_
   rintro e w4 ⟨rfl,rfl⟩
   clear DK
   go_wp2_with fail
   refine DS.out.mono ?_
   rintro e w5 ⟨vS,ss,rfl,hperm,hown,hnil,hb5⟩
   have hkeys:=HM3.out.keys hperm (coZ TS) (rrZ TS)
   have hql:ss.length=(obZ TS).length:=by rw[<-hkeys];exact(List.length_mergeSort ss).symm
   rw[hql,show ss.mergeSort (fun x y=>decide (x<=y))=obZ TS from hkeys,zfZb]at hown
   have hb35:Below w3.heap.size w3 w5:=dZ hb5 (aZ (Below.refl _ _))
   have hown5:w5.ownsRow w.heap.size 9 1 vS (obZ TS).length (ccZ (obZ TS)):=lZ hown (by have:=HB3.out.size;simp;omega)
   obtain⟨SS,hSS⟩:∃SS,SS=obZ TS:=⟨_,rfl⟩
   rw[<-hSS]at hown5
   have hqm:SS.length<=2000000000:=by
    rw[hSS,<-hql,hperm.length_eq]
    refine Nat.le_trans ?_ (Nat.le_trans hms hm2)
    unfold strKeys Maps.size
    cases D<;>simp
   obtain⟨q,hq⟩:∃q,q=SS.length:=⟨_,rfl⟩
   rw[<-hq]at hown5 hqm
   obtain⟨AS,cS,rfl⟩:=bZ hown5
   have HS5:Hid (St3 w5 mb m w.heap.size w.heap.size bo w5.heap.size D (weZ TS) V (.slice AS q cS) (.slice none 0 0) (.slice none 0 0) q 0 0 SS):=
    ⟨HM3.out.step hb35,HX3.out.step hb35,HBX3.out.step hb35,by omega,World.ownsRow_nil _ _ _ _,World.ownsRow_nil _ _ _ _,hown5,fun g hg=>(World.ownsRow.lt hown5 g hg).2,by have:=HB3.out.size;have:=hb35.size;omega,Nat.le_refl _⟩
   have HB5:Hid (Below w.heap.size w w5):=dZ hb35 HB3.out
   have HQ:=hid hq
   have HSSE:=hid hSS
   have HLG:Hid (∀s∈SS,s.length<=25):=fun s hs=>HM3.out.long s ((rrZ TS s).1 (by rw[<-HSSE.out];exact hs))
   have HIL:Hid (∀s,(weZ TS s).length<=20000):=fun s=>by have h1:=hzZ TS s;have h2:=HLEN.out;omega
   obtain⟨B2,hB2⟩:∃B2,B2=w5.heap.size:=⟨_,rfl⟩
   rw[<-hB2]at HS5
   clear hperm hown hnil hb5 hkeys hql hb35 hown5 hq hSS DS HM3 HX3 HBX3 HB3 hB2 hms hm2
   obtain⟨i0,hi0,hx0,hx1,hx2⟩:=info_parts xfZb
   obtain⟨i1,hi1,hw0,hw1,hw2⟩:=info_parts xdZb
   go_wp2_with fail
   go_loopw [40] (fun iv wr=>∃ (k2:Nat) (vT vL:Value),k2<=q/\iv= .int .i64 k2/\Hid (St3 wr mb m w.heap.size w.heap.size bo B2 D (weZ TS) V (.slice AS q cS) vT vL q k2 k2 SS)/\Hid (Below w.heap.size w wr)) (fun iv _=>q-(intOf iv).toNat)
   case atStart=>exact⟨0,_,_,by omega,rfl,HS5.out,HB5.out⟩
   case round=>
    obtain⟨k2,vT,vL,hk2,rfl,HS,HB⟩:=hrel
    clear HS5 HB5
    by_cases hkl:k2<q
    ·have gj:decide ((k2:Int)<(q:Int))=true:=by simp;omega
     have gj':decide (k2<q)=true:=by simp;omega
     have y0:(0:Int)<=(k2:Int):=by omega
     have y1:(k2:Int)<(q:Int):=by omega
     obtain⟨t,ht⟩:∃t,SS[k2]? =some t:=⟨_,List.getElem?_eq_getElem (by have:=HQ.out;omega)⟩
     obtain⟨g,cg,hAg,hbg,_⟩:=HS.out.ss.form (by omega)
     injection hAg with hA1 hA2 hA3
     subst hA1 hA3
     have ck:wr.cell? ⟨g,k2,none⟩=some (.string (bs t)):=by rw[HS.out.ss.cellAt k2 (by omega)];exact llZ ht
     have htk:SS.take (k2+1)=SS.take k2++ [t]:=by rw[List.take_add_one,ht];rfl
     have HTK:=hid htk
     have htl:=HLG.out t (List.mem_of_getElem? ht)
     have HTL:=hid htl
     obtain⟨A5,c5,rfl⟩:=bZ HS.out.tt
     obtain⟨A8,c8,rfl⟩:=bZ HS.out.ll
     obtain⟨A7,c7,hV⟩:=bZ (HS.out.mi.row t)
     have HV:=hid hV
     have b0:=HS.out.box.cell 0
     simp only[List.getElem?_toArray,List.getElem?_cons_zero]at b0
     have hzr:=HB.out.size
     have hb2z:=HS.out.bz
     have hb22:=HS.out.b2
     obtain⟨p,hp⟩:∃p,p=(weZ TS t).length:=⟨_,rfl⟩
     rw[<-hp]at HV
     clear ht htk htl hV hp
     go_wp2_with(first|(at_builtin;refine kZ rfl (.tmp 45) (.tmp 47) 33 rfl B2 9 i0 _ 1 16 Tryz.underlying33 hi0 hx0 hx1 hx2 rfl (by decide) _ _ _ (by rfl) (HS.out.tt.alloc _) _ 1 1 [.string (bs t)] (by rfl) (Src.of_blk (Blk.made _ _ _) 1 1 1 rfl) (by intro u hu;simp at hu;rcases hu with rfl;rfl) (by unfold maxLen;omega) (by omega) (by simp;omega) ?_;intro v6 w6 hown6 hg6 hat6;obtain⟨A6,c6,rfl⟩:=bZ hown6;have hS6:=HS.out.putT hg6 (by rw[HTK.out,jiZ];exact hown6);have hlk:=hS6.mi.look t (by have:=HTL.out;unfold maxLen;omega);rw[HV.out]at hlk;have f6:=((HS.out.box.alloc _).grown hg6 (fun e=>jZ HS.out.tt HS.out.box (by decide) e.symm)).frozen 0;have e6:=((HS.out.box.alloc _).grown hg6 (fun e=>jZ HS.out.tt HS.out.box (by decide) e.symm)).cell 0;have e61:=((HS.out.box.alloc _).grown hg6 (fun e=>jZ HS.out.tt HS.out.box (by decide) e.symm)).cell 1;simp only[List.getElem?_toArray,List.getElem?_cons_zero,List.getElem?_cons_succ]at e6 e61;have HB6:Hid (Below w.heap.size w w6):=(gZ hzr HB.out).grown hg6 (by simp;omega) (fun y hy=>Nat.le_trans hb22 (World.ownsRow.lt HS.out.tt y hy).1);have H6:=hid hS6;have hb6z:=hS6.bz;clear hS6 hown6 hg6 hat6)|(at_builtin;refine kZ rfl (.tmp 51) (.tmp 55) 34 rfl B2 30 i1 _ 1 24 Tryz.underlying34 hi1 hw0 hw1 hw2 rfl (by decide) _ _ _ (by rfl) (H6.out.ll.alloc _) _ 1 1 [.slice A7 p c7] (by rfl) (Src.of_blk (Blk.made_at _ _ _ (by simp)) 1 1 1 rfl) (by intro u hu;simp at hu;rcases hu with rfl;rfl) (by unfold maxLen;omega) (by omega) (by simp at hb6z ⊢;omega) ?_;intro v9 w9 hown9 hg9 hat9;obtain⟨A9,c9,rfl⟩:=bZ hown9;have hS9:=H6.out.putL hg9 (by rw[HTK.out,List.map_append,List.map_singleton,HV.out];exact hown9);have f9:=((H6.out.box.alloc _).grown hg9 (fun e=>jZ H6.out.ll H6.out.box (by decide) e.symm)).frozen 1;have e9:=((H6.out.box.alloc _).grown hg9 (fun e=>jZ H6.out.ll H6.out.box (by decide) e.symm)).cell 1;simp only[List.getElem?_toArray,List.getElem?_cons_zero,List.getElem?_cons_succ]at e9;have HB9:Hid (Below w.heap.size w w9):=(gZ (by have:=HB6.out.size;simp;omega) (fZ (Nat.le_of_lt hbl) HB6.out)).grown hg9 (by have:=HB6.out.size;simp;omega) (fun y hy=>Nat.le_trans hb22 (World.ownsRow.lt H6.out.ll y hy).1);have H9:=hid hS9;clear hS9 hown9 hg9 hat9))
     have HBF:Hid (Below w.heap.size w (w9.setCell ⟨bo,1,none⟩ (.slice A9 (k2+1) c9))):=fZ (Nat.le_of_lt hbl) HB9.out
     clear H6 HB6 HB9 HS HB
     go_roundw
     case measure=>go_light;simp[intOf];omega
     case rel=>go_light;exact⟨k2+1,_,_,by omega,by first|rfl|go_num,H9.out,HBF.out⟩
    ·obtain rfl:k2=q:=by omega
     have gj:decide ((k2:Int)<(k2:Int))=false:=by simp
     have gj':decide (k2<k2)=false:=by simp
     obtain⟨A5,c5,rfl⟩:=bZ HS.out.tt
     obtain⟨A8,c8,rfl⟩:=bZ HS.out.ll
     have b0:=HS.out.box.cell 0
     have b1:=HS.out.box.cell 1
     have r0:=HS.out.res.cell 0
     have r1:=HS.out.res.cell 1
     have s0:=HS.out.res.frozen 0
     have s1:=HS.out.res.frozen 1
     simp only[List.getElem?_toArray,List.getElem?_cons_zero,List.getElem?_cons_succ]at b0 b1 r0 r1
     go_wp2_with fail
     have hfull:SS.take k2=SS:=List.take_of_length_le (by rw[<-HQ.out];exact Nat.le_refl _)
     have ht1:=HS.out.tt
     have hl1:=HS.out.ll
     rw[hfull]at ht1 hl1
     have hbw:=HS.out.b2
     have n1:(Value.slice A5 k2 c5).ownBlock≠some w.heap.size:=jZ ht1 HS.out.res (by decide)
     have n2:(Value.slice A8 k2 c8).ownBlock≠some w.heap.size:=jZ hl1 HS.out.res (by decide)
     refine bodyPost_ret (v:= .agg #[.slice A5 k2 c5, .slice A8 k2 c8]) ?_ rfl ⟨_,_,SS.map V,rfl,⟨?_,?_,?_⟩,?_⟩
     ·have e0:=(HS.out.res.set 0 (.slice A5 k2 c5)).cell 0
      have e1:=((HS.out.res.set 0 (.slice A5 k2 c5)).set 1 (.slice A8 k2 c8)).cell 1
      simp at e0 e1
      simp[results,Tryz.results56,go_sem,e0,e1]
     ·rw[<-HTSE.out,<-HSSE.out,<-HQ.out]
      exact qeZ (qeZ (lZ ht1 hbw) n1 _) n1 _
     ·rw[<-HTSE.out,<-HSSE.out,List.length_map,<-HQ.out]
      exact qeZ (qeZ (lZ hl1 hbw) n2 _) n2 _
     ·intro i v ids hv hi
      rw[<-HTSE.out,<-HSSE.out]at hi
      rw[List.getElem?_map]at hv hi
      cases hs:SS[i]? with
      |none=>rw[hs]at hv;cases hv
      |some s=>
       rw[hs]at hv hi
       injection hv with hv
       injection hi with hi
       subst hv hi
       have hn:=jZ (HS.out.mi.row s) HS.out.res (by decide)
       exact qeZ (qeZ (HS.out.mi.row s) hn _) hn _
     ·exact fZ (Nat.le_refl _) (fZ (Nat.le_refl _) HB.out)
end Go.Proofs.YtbgoibedicbkjaaGreatDoor.Idx
namespace Go.Proofs.YtbgoibedicbkjaaGreatDoor.Body
open Go.RowKit Mem Go.Proofs.YtbgoibedicbkjaaGreatDoor.Own Canon NumPut Crc
open Recs Opts Idx
open Go.Proofs.YtbgoibedicbkjaaGreatDoor.Block (igZ oZ ieZ)
open Go.Proofs.YtbgoibedicbkjaaGreatDoor.One (FrsAt FrsAt.step FrsAt.grown FrsAt.snoc beZ mrZ xkZ bkZ)
theorem ciZb(w:World)(o:Opt)(A:Option Addr)(n c:Nat)(l:List Rec)(ho:oeZ o=0)(hn:l.length=n)(hN:n<=1000)(hc:n<=c)(hok:∀r∈l,whZ r)(hk:ymZ l=0)(hb:(ifZ false l).length<=16000)(hT:(obZ (l.map abZ)).length<=20000)(hix:(ixR o l).length<=99000)(ht:TabAt w)(hg0:(rcZ o l).length=0)(hn0:n<=0)(ha:Row w w.heap.size A n 4 (veZ l)):
 Calls Tryz.prog 17 #[o.val, .slice A n c] w (wpZ o l w):=by
 have HG0:=hid hg0
 clear hg0
 obtain⟨j0,hj0,hy0,hy1,hy2⟩:=info_parts xkZ
 obtain⟨i0,hi0,hw0,hw1,hw2⟩:=info_parts Ef.btZ
 have hlong:=mrZ hk
 obtain⟨hb1,hb2,hb3,hb4⟩:=jzZ ho
 have hgl:=ooZ o l
 have hgs:=noZ o l
 have hgp:∀x∈rcZ o l,1<=x:=One.ylZ _ _
 rw[hn]at hgl
 obtain⟨blk,pl,bu,da,pa,ch⟩:=o
 simp only at hb1 hb2 hb3 hb4
 obtain⟨S,rfl⟩:=Int.eq_ofNat_of_zero_le (show 0<=blk by omega)
 obtain⟨BU,rfl⟩:=Int.eq_ofNat_of_zero_le (show 0<=bu by omega)
 have D1:=hid (fun wx=>nqZ wx ⟨(S:Nat),pl,(BU:Nat),da,pa,ch⟩)
 rw[ho]at D1
 have D2:=hid (fun wx (hx:Below w.heap.size w wx)=>haZb wx A n c l hn (by omega) ((ha.below hx).mono hx.size))
 rw[hk]at D2
 have D3:=hid (fun wx (hx:Below w.heap.size w wx)=>kaZb wx S false A n c l (by omega) (by omega) hn (by omega) hok hlong ((ha.below hx).mono hx.size))
 have DC:=hid (fun wx (hx:Below w.heap.size w wx)=>eyZ wx A n c l hn (by omega) hc hok ((ha.below hx).mono hx.size))
 have hszl:∀r∈l,r.source.size<=50000/\r.text.size<=50000:=fun r hr=>by
  obtain⟨a,b⟩:=ufZ (hlong r hr)
  omega
 have DB:=hid (fun wx (hx:Below w.heap.size w wx)=>heZb wx A n c l hn (by omega) hn0 ((ha.below hx).mono hx.size))
 unfold cwZ at DB
 have hix1:=aeZb l
 have DX:=hid (fun wx base vT vL vals (h:IxAt wx base vT vL vals (obZ (l.map abZ)) ((obZ (l.map abZ)).map (weZ (l.map abZ))))=>dyZ wx BU n base vT vL vals (obZ (l.map abZ)) ((obZ (l.map abZ)).map (weZ (l.map abZ))) (by omega) (by omega) (by omega) hT (by rw[List.length_map]) (izZ (by omega)) (fun x hx=>(hix1.2 x hx).1) (by rw[<-hn];exact hix1.1) h)
 have hIXe:ixR ⟨(S:Nat),pl,(BU:Nat),da,pa,ch⟩ l=ixO BU n (obZ (l.map abZ)) ((obZ (l.map abZ)).map (weZ (l.map abZ))):=by unfold ixR;rw[hn];rfl
 rw[<-hIXe]at DX
 unfold vlZ at D3
 unfold vpZ at DC
 have hcE:jfZ S (vdZ false l)=rcZ ⟨(S:Nat),pl,(BU:Nat),da,pa,ch⟩ l:=rfl
 rw[hcE]at D3
 unfold wpZ Opt.val
 unfold Opt.val at D1
 simp only at D1 ⊢
 have HMB:Hid (aiZ ⟨(S:Nat),pl,(BU:Nat),da,pa,ch⟩ l=aeZ n (rcZ ⟨(S:Nat),pl,(BU:Nat),da,pa,ch⟩ l) (nfZ false pl (rcZ ⟨(S:Nat),pl,(BU:Nat),da,pa,ch⟩ l) l) (bgZ l) (ixR ⟨(S:Nat),pl,(BU:Nat),da,pa,ch⟩ l)):=by show _=_;unfold aiZ;rw[hn]
 have hcl:=anZ hok (by omega)
 rw[hn]at hcl
 have hc8:=ygZb hok
 have hix8:=clZb ⟨(S:Nat),pl,(BU:Nat),da,pa,ch⟩ l
 have hfl:=rkZ false pl (rcZ ⟨(S:Nat),pl,(BU:Nat),da,pa,ch⟩ l) l hb
 generalize aiZ ⟨(S:Nat),pl,(BU:Nat),da,pa,ch⟩ l=MB at *
 generalize rcZ ⟨(S:Nat),pl,(BU:Nat),da,pa,ch⟩ l=G at *
 generalize ixR ⟨(S:Nat),pl,(BU:Nat),da,pa,ch⟩ l=IX at *
 generalize bgZ l=CB at *
 generalize obZ (l.map abZ)=TS at *
 generalize TS.map (weZ (l.map abZ))=LS at *
 obtain⟨g,hg⟩:∃g,g=G.length:=⟨_,rfl⟩
 rw[<-hg]at D3 hgl hfl
 obtain⟨FR,hFR⟩:∃FR,FR=nfZ false pl G l:=⟨_,rfl⟩
 rw[<-hFR]at HMB hfl
 have HFR:=hid hFR
 have HGL:=hid hg
 have HGS:=hid hgs
 have HPOS:=hid hgp
 have HT:=hid ht
 have HOK:=hid hok
 have HLO:=hid hlong
 have HN:=hid hn
 have HC8:=hid hc8
 have HFL:=hid hfl
 have HIX:=hid hix
 have HIX8:=hid hix8
 have HRA:Hid (Row w w.heap.size A n 4 (veZ l)):=ha
 clear hn0 ho hk hcE hg hgs hgp ht hok hlong hFR hszl hix1 hIXe hc8 hfl hn hix ha hT hix8
 go_enter Tryz.func17,Tryz.ntmps17
 go_wp2_with fail
 have hba:Blk (w.alloc (.cells #[.int .i64 S, .bool pl, .int .i64 BU, .int .i64 da, .int .i64 pa, .int .i64 ch] 25)) w.heap.size 25 #[.int .i64 S, .bool pl, .int .i64 BU, .int .i64 da, .int .i64 pa, .int .i64 ch]:=Blk.made _ _ _
 have hbw:Below w.heap.size w (w.alloc (.cells #[.int .i64 S, .bool pl, .int .i64 BU, .int .i64 da, .int .i64 pa, .int .i64 ch] 25)):=aZ (Below.refl _ _)
 have hzw:(w.alloc (.cells #[.int .i64 S, .bool pl, .int .i64 BU, .int .i64 da, .int .i64 pa, .int .i64 ch] 25)).heap.size=w.heap.size+1:=by simp
 generalize w.alloc (.cells #[.int .i64 S, .bool pl, .int .i64 BU, .int .i64 da, .int .i64 pa, .int .i64 ch] 25)=wa at *
 have hzw2:w.heap.size<wa.heap.size:=by omega
 have HBW:=hid hbw
 have HS:Hid (∀wx,Below wa.heap.size wa wx->wx.cell? ⟨w.heap.size,0,none⟩=some (.int .i64 S)/\wx.cell? ⟨w.heap.size,1,none⟩=some (.bool pl)/\wx.cell? ⟨w.heap.size,2,none⟩=some (.int .i64 BU)):=fun wx h=>⟨(hba.step h).cell 0,(hba.step h).cell 1,(hba.step h).cell 2⟩
 have HWA:Hid (∀wx,Below wa.heap.size wa wx->Below w.heap.size w wx):=fun wx h=>hbw.trans (h.mono hbw.size)
 clear hba hbw hzw
 refine(D1.out _).mono ?_
 rintro e w1 ⟨rfl,hb1'⟩
 have B1:=hid hb1'
 have E2:=hid (D2.out w1 (HWA.out _ hb1'))
 clear hb1' D1 D2
 go_wp2_with fail
 refine E2.out.mono ?_
 rintro e w2 ⟨rfl,hb2'⟩
 have B2:Hid (Below wa.heap.size wa w2):=dZ hb2' B1.out
 have E3:=hid (D3.out w2 (HWA.out _ B2.out))
 have k0:=(HS.out w2 B2.out).1
 clear hb2' E2 D3 B1
 go_wp2_with fail
 refine E3.out.mono ?_
 rintro e w3 ⟨vG,rfl,hoG,hb3'⟩
 obtain⟨AG,cG,rfl⟩:=bZ hoG
 have B3:Hid (Below wa.heap.size wa w3):=dZ hb3' B2.out
 have HOG:=hid (lZ hoG B2.out.size)
 clear hb3' hoG E3 B2 k0
 have hbd:Blk (w3.alloc (.cells #[.slice AG g cG, .slice none 0 0, .int .i64 0, .int .i64 0] 92)) w3.heap.size 92 #[.slice AG g cG, .slice none 0 0, .int .i64 0, .int .i64 0]:=Blk.made _ _ _
 have d0:=hbd.cell 0
 simp only[List.getElem?_toArray,List.getElem?_cons_zero]at d0
 have hbb:Below w3.heap.size w3 (w3.alloc (.cells #[.slice AG g cG, .slice none 0 0, .int .i64 0, .int .i64 0] 92)):=aZ (Below.refl _ _)
 have HM0:Hid (MSt w3.heap.size w3.heap.size (.slice AG g cG) (.slice none 0 0) (.slice none 0 0) [] (w3.alloc (.cells #[.slice AG g cG, .slice none 0 0, .int .i64 0, .int .i64 0] 92))):=⟨hbd,World.ownsRow_nil _ _ _ _,(fun p hp=>by cases hp),World.ownsRow_nil _ _ _ _,Nat.le_refl _⟩
 go_wp2_with fail
 have HB0:=hid hbb
 clear hbd hbb d0
 generalize w3.alloc (.cells #[.slice AG g cG, .slice none 0 0, .int .i64 0, .int .i64 0] 92)=wd at *
 have HBW3:Hid (Below w.heap.size w w3):=HWA.out _ B3.out
 go_loopw [9,10,39] (fun pv av iv wx=>∃ (k at_:Nat) (ps:List Part) (vS:Value),k<=g/\at_<=n/\iv= .int .i64 k/\av= .int .i64 at_/\Hid (ps.map Part.ls++nfZ false pl (G.drop k) (l.drop at_)=FR)/\Hid (ps.length=k)/\Hid (at_+(G.drop k).sum=n)/\Hid (MSt w3.heap.size w3.heap.size (.slice AG g cG) pv vS ps wx)/\Hid (Below w3.heap.size w3 wx)) (fun _ _ iv _=>g-(intOf iv).toNat)
 case atStart=>exact⟨0,0,[],_,by omega,by omega,rfl,rfl,HFR.out.symm,rfl,by show _=_;rw[List.drop_zero,HGS.out,HN.out];omega,HM0.out,HB0.out⟩
 case round=>
  obtain⟨k,at_,ps,vS,hkg,hat,rfl,rfl,HF,HPL,HSM,HM,HB⟩:=hrel
  clear HM0 HB0
  have hz:=HB.out.size
  have hpr0:=HM.out.pr
  have hsr0:=HM.out.sr
  rw[HPL.out]at hpr0 hsr0
  obtain⟨AP,cP,rfl⟩:=bZ hpr0
  obtain⟨AS,cS,rfl⟩:=bZ hsr0
  clear hpr0 hsr0
  by_cases hlt:k<g
  ·exact absurd hlt (by have h1:=HGL.out;have h2:=HG0.out;omega)
  ·obtain rfl:k=g:=by omega
   have gk:decide ((k:Int)<(k:Int))=false:=by simp
   have gk':decide (k<k)=false:=by simp
   have hf:=HF.out
   rw[List.drop_of_length_le (by rw[<-HGL.out];exact Nat.le_refl _),nfZ,List.append_nil]at hf
   have HPS:=hid hf
   have HWX:Hid (Below w.heap.size w wr):=HBW3.out.trans (HB.out.mono HBW3.out.size)
   have E4:=hid (DC.out wr HWX.out)
   clear hf HF HSM
   go_wp2_with fail
   refine E4.out.mono ?_
   rintro e w4 ⟨v4,rfl,ho4,hb4'⟩
   obtain⟨A4,c4,rfl⟩:=bZ ho4
   have P4:Hid (Part.Ok (⟨A4,c4,CB⟩:Part) w4):=oZ ho4 rfl
   have HW4:Hid (Below w.heap.size w w4):=dZ hb4' HWX.out
   have HM4:=hid (HM.out.step hb4')
   have HB4:Hid (Below w3.heap.size w3 w4):=iZ hb4' hz HB.out
   have E5:=hid (put_any w4 A4 CB.length c4 CB rfl (by omega) P4.out.nil HC8.out (HT.out.step HW4.out) P4.out.row)
   unfold ceZ at E5
   obtain⟨cl,hcl4⟩:∃cl,cl=CB.length+4:=⟨_,rfl⟩
   rw[<-hcl4]at E5
   have HCL:=hid hcl4
   have hclb:cl<=30000:=by omega
   clear ho4 hb4' E4 DC hcl4 HM HB P4
   go_wp2_with fail
   refine E5.out.mono ?_
   rintro e w5 ⟨v5,rfl,ho5,hb5⟩
   obtain⟨A5,c5,rfl⟩:=bZ ho5
   have HW5:Hid (Below w.heap.size w w5):=dZ hb5 HW4.out
   have HM5:=hid (HM4.out.step hb5)
   have HB5:Hid (Below w3.heap.size w3 w5):=iZ hb5 HB4.out.size HB4.out
   have HO5:Hid (w5.ownsRow w3.heap.size 5 1 (.slice A5 cl c5) cl (cZ .u8 (dbZ CB))):=lZ ho5 HB4.out.size
   have HS5:Hid (∀wx,Below w3.heap.size w3 wx->wx.cell? ⟨w.heap.size,2,none⟩=some (.int .i64 BU)):=fun wx h=>(HS.out wx (dZ h B3.out)).2.2
   have kp:=HS5.out w5 HB5.out
   clear ho5 hb5 E5 HM4 HB4 HW4
   go_upto_region 21 with fail
   go_region_held3 (fun wx=>wx.cell? ⟨w.heap.size,2,none⟩=some (.int .i64 BU)) (first|exact kp|exact kp2|exact kp3) (first|(go_at_call 56;(with_reducible refine(DB.out _ (Below.drew HW5.out)).mono ?_);rintro e wA ⟨vT,vL,vals,rfl,hIX,hbA⟩;have BA:Below w5.heap.size w5 wA:=dZ hbA (Below.drew (Below.refl _ _));have kp2:=HS5.out wA (iZ BA HB5.out.size HB5.out))|(go_at_call 55;(with_reducible refine(DX.out _ _ _ _ _ hIX).mono ?_);rintro e w6 ⟨v6,rfl,ho6,hb6⟩;obtain⟨A6,c6,rfl⟩:=bZ ho6;have B6:Below w5.heap.size w5 w6:=dZ hb6 BA;have kp3:=HS5.out w6 (iZ B6 HB5.out.size HB5.out)))
   all_goals
    have P6:Hid (Part.Ok (⟨A6,c6,IX⟩:Part) w6):=oZ ho6 rfl
    have HM6:=hid (HM5.out.step B6)
    have HB6:Hid (Below w3.heap.size w3 w6):=iZ B6 HB5.out.size HB5.out
    have HW6:Hid (Below w.heap.size w w6):=dZ B6 HW5.out
    have HO56:Hid (w6.ownsRow w3.heap.size 5 1 (.slice A5 cl c5) cl (cZ .u8 (dbZ CB))):=eZ HO5.out fun y hy=>B6.block y (World.ownsRow.lt HO5.out y hy).2
    have E7:=hid (put_any w6 A6 IX.length c6 IX rfl (by have:=HIX.out;omega) P6.out.nil HIX8.out (HT.out.step HW6.out) P6.out.row)
    unfold ceZ at E7
    obtain⟨il,hil⟩:∃il,il=IX.length+4:=⟨_,rfl⟩
    rw[<-hil]at E7
    have HIL:=hid hil
    have hilb:il<=99004:=by have:=HIX.out;omega
    clear hIX hbA BA kp2 ho6 hb6 B6 kp3 kp hil HO5 HB5 HW5 HM5 P6
    go_wp2_with fail
    refine E7.out.mono ?_
    rintro e w7 ⟨v7,rfl,ho7,hb7⟩
    obtain⟨A7,c7,rfl⟩:=bZ ho7
    have HM7:=hid (HM6.out.step hb7)
    have HB7:Hid (Below w3.heap.size w3 w7):=iZ hb7 HB6.out.size HB6.out
    have HW7:Hid (Below w.heap.size w w7):=dZ hb7 HW6.out
    have HO7:Hid (w7.ownsRow w3.heap.size 5 1 (.slice A7 il c7) il (cZ .u8 (dbZ IX))):=lZ ho7 HB6.out.size
    have HO57:Hid (w7.ownsRow w3.heap.size 5 1 (.slice A5 cl c5) cl (cZ .u8 (dbZ CB))):=eZ HO56.out fun y hy=>hb7.block y (World.ownsRow.lt HO56.out y hy).2
    have HOG7:Hid (w7.ownsRow wa.heap.size 3 1 (.slice AG k cG) k (cZ .i64 G)):=eZ HOG.out fun y hy=>HB7.out.block y (World.ownsRow.lt HOG.out y hy).2
    have dc2:=HM7.out.dir.cell 2
    have dc3:=HM7.out.dir.cell 3
    have df2:=HM7.out.dir.frozen 2
    have df3:=HM7.out.dir.frozen 3
    simp only[List.getElem?_toArray,List.getElem?_cons_zero,List.getElem?_cons_succ]at dc2 dc3
    clear ho7 hb7 E7 HM6 HB6 HW6 HO56
    go_wp2_with fail
    obtain⟨hd8,hbl8,hk8⟩:=HM7.out.stores (.int .i64 (cl:Nat)) (.int .i64 (il:Nat))
    have ho5:=hk8 HO57.out (by decide)
    have ho7:=hk8 HO7.out (by decide)
    have hoG:=hk8 HOG7.out (by decide)
    have hpr:=hk8 HM7.out.pr (by decide)
    have hsr:=hk8 HM7.out.sr (by decide)
    have hfr:FrsAt _ w3.heap.size ps:=fun p hp=>hk8 (HM7.out.fr p hp) (by decide)
    have hB8:=HB7.out.trans hbl8
    have hW8:=HW7.out.trans (hbl8.mono HBW3.out.size)
    rw[HPL.out]at hpr hsr
    clear hk8 hbl8 HO57 HO7 HOG7 HM7 HB7 HW7 dc2 dc3 df2 df3
    generalize (w7.setCell ⟨w3.heap.size,2,none⟩ (.int .i64 (cl:Nat))).setCell ⟨w3.heap.size,3,none⟩ (.int .i64 (il:Nat))=w8 at *
    obtain⟨SZ,hSZ⟩:∃SZ,SZ=ps.map (fun p=>p.ls.length):=⟨_,rfl⟩
    rw[<-hSZ]at hsr
    have hSl:SZ.length=k:=by rw[hSZ,List.length_map];exact HPL.out
    have hSF:FR.map List.length=SZ:=by rw[<-HPS.out,hSZ,List.map_map];rfl
    have hSb:∀z∈SZ,z<=1000000000:=fun z hz=>by
     rw[<-hSF]at hz
     obtain⟨f,hf,rfl⟩:=List.mem_map.1 hz
     have h1:=One.zyZ hf
     have h2:=HFL.out
     omega
    have hGn:G.sum=n:=HGS.out.trans HN.out
    have E9:=hid (fwZ w8 w3.heap.size k cG cS cl il w8.heap.size AG AS G SZ HGL.out.symm hSl (by omega) (by omega) hSb (by omega) (by omega) hd8 (Ef.own_row hoG HGL.out.symm) (Ef.own_row hsr hSl) (Nat.le_refl _))
    rw[hGn]at E9
    have hDl:=ewZ (n:=n) (G:=G) (S:=SZ) (x:=cl) (y:=il) (by omega) (by rw[<-HGL.out];omega) (fun z hz=>by have:=le_sum hz;omega) hSb (by omega) (by omega)
    have hD8:=trZ n G SZ cl il
    rw[<-HGL.out]at hDl
    have HJ:Hid (MB=FR.flatten++(dbZ CB++(dbZ IX++(dbZ (rfZ n G SZ cl il)++xeZ (dbZ (rfZ n G SZ cl il)).length)))):=by
     show _=_
     rw[HMB.out]
     unfold aeZ
     rw[hSF,tcZ CB,tcZ IX,<-HCL.out,<-HIL.out]
    generalize rfZ n G SZ cl il=DI at *
    have HO5:=hid ho5
    have HO7:=hid ho7
    have HPR:=hid hpr
    have HFRS:=hid hfr
    have HB8:=hid hB8
    have HW8:=hid hW8
    have HD8:=hid hD8
    clear ho5 ho7 hoG hpr hsr hfr hB8 hW8 hSZ hSl hSF hSb hGn hd8 hD8 HMB
    refine E9.out.mono ?_
    rintro e w9 ⟨v9,rfl,ho9,hb9⟩
    obtain⟨A9,c9,rfl⟩:=bZ ho9
    have P9:Hid (Part.Ok (⟨A9,c9,DI⟩:Part) w9):=oZ ho9 rfl
    have HB9:Hid (Below w3.heap.size w3 w9):=iZ hb9 HB8.out.size HB8.out
    have HW9:Hid (Below w.heap.size w w9):=dZ hb9 HW8.out
    have E10:=hid (put_any w9 A9 DI.length c9 DI rfl (by omega) P9.out.nil HD8.out (HT.out.step HW9.out) P9.out.row)
    unfold ceZ at E10
    obtain⟨dl,hdl⟩:∃dl,dl=DI.length+4:=⟨_,rfl⟩
    rw[<-hdl]at E10
    have HDL:=hid hdl
    have hdlb:dl<=30000:=by omega
    have hk9:∀y,y<w8.heap.size->w9.heap[y]? =w8.heap[y]? :=hb9.block
    have HO59:Hid (w9.ownsRow w3.heap.size 5 1 (.slice A5 cl c5) cl (cZ .u8 (dbZ CB))):=eZ HO5.out fun y hy=>hb9.block y (World.ownsRow.lt HO5.out y hy).2
    have HO79:Hid (w9.ownsRow w3.heap.size 5 1 (.slice A7 il c7) il (cZ .u8 (dbZ IX))):=eZ HO7.out fun y hy=>hb9.block y (World.ownsRow.lt HO7.out y hy).2
    have HPR9:Hid (w9.ownsRow w3.heap.size 22 1 (.slice AP k cP) k (ps.map Part.v)):=eZ HPR.out fun y hy=>hb9.block y (World.ownsRow.lt HPR.out y hy).2
    have HFR9:Hid (FrsAt w9 w3.heap.size ps):=HFRS.out.step hb9
    clear ho9 hb9 E9 hdl HO5 HO7 HPR HFRS hk9 HB8 HW8 P9
    go_wp2_with fail
    refine E10.out.mono ?_
    rintro e w10 ⟨v10,rfl,ho10,hb10⟩
    obtain⟨A10,c10,rfl⟩:=bZ ho10
    have HB10:Hid (Below w3.heap.size w3 w10):=iZ hb10 HB9.out.size HB9.out
    have HW10:Hid (Below w.heap.size w w10):=dZ hb10 HW9.out
    have E11:=hid (uaZb w10 dl (by omega))
    have u9:IntKind.u64.wrap (dl:Int)=(dl:Int):=by rw[IntKind.wrap_u64];omega
    have HO10:Hid (w10.ownsRow w3.heap.size 5 1 (.slice A10 dl c10) dl (cZ .u8 (dbZ DI))):=lZ ho10 HB9.out.size
    have HO510:Hid (w10.ownsRow w3.heap.size 5 1 (.slice A5 cl c5) cl (cZ .u8 (dbZ CB))):=eZ HO59.out fun y hy=>hb10.block y (World.ownsRow.lt HO59.out y hy).2
    have HO710:Hid (w10.ownsRow w3.heap.size 5 1 (.slice A7 il c7) il (cZ .u8 (dbZ IX))):=eZ HO79.out fun y hy=>hb10.block y (World.ownsRow.lt HO79.out y hy).2
    have HPR10:Hid (w10.ownsRow w3.heap.size 22 1 (.slice AP k cP) k (ps.map Part.v)):=eZ HPR9.out fun y hy=>hb10.block y (World.ownsRow.lt HPR9.out y hy).2
    have HFR10:Hid (FrsAt w10 w3.heap.size ps):=HFR9.out.step hb10
    clear ho10 hb10 E10 HO59 HO79 HPR9 HFR9 HB9 HW9
    go_wp2_with fail
    refine E11.out.mono ?_
    rintro e w11 ⟨v11,rfl,ho11,hb11⟩
    obtain⟨A11,c11,rfl⟩:=bZ ho11
    have HB11:Hid (Below w3.heap.size w3 w11):=iZ hb11 HB10.out.size HB10.out
    have HW11:Hid (Below w.heap.size w w11):=dZ hb11 HW10.out
    have HO11:Hid (w11.ownsRow w3.heap.size 5 1 (.slice A11 4 c11) 4 (cZ .u8 (xeZ dl))):=lZ ho11 HB10.out.size
    have HO1011:Hid (w11.ownsRow w3.heap.size 5 1 (.slice A10 dl c10) dl (cZ .u8 (dbZ DI))):=eZ HO10.out fun y hy=>hb11.block y (World.ownsRow.lt HO10.out y hy).2
    have HO511:Hid (w11.ownsRow w3.heap.size 5 1 (.slice A5 cl c5) cl (cZ .u8 (dbZ CB))):=eZ HO510.out fun y hy=>hb11.block y (World.ownsRow.lt HO510.out y hy).2
    have HO711:Hid (w11.ownsRow w3.heap.size 5 1 (.slice A7 il c7) il (cZ .u8 (dbZ IX))):=eZ HO710.out fun y hy=>hb11.block y (World.ownsRow.lt HO710.out y hy).2
    have HPR11:Hid (w11.ownsRow w3.heap.size 22 1 (.slice AP k cP) k (ps.map Part.v)):=eZ HPR10.out fun y hy=>hb11.block y (World.ownsRow.lt HPR10.out y hy).2
    have HFR11:Hid (FrsAt w11 w3.heap.size ps):=HFR10.out.step hb11
    have hz11:=HB11.out.size
    clear ho11 hb11 E11 HO10 HO510 HO710 HPR10 HFR10 HB10 HW10
    go_wp2_with(at_builtin;have q1:=HPR11.out.alloc (.cells #[.slice A5 cl c5, .slice A7 il c7, .slice A10 dl c10, .slice A11 4 c11] 22);have q2:=(Src.of_blk (w:=w11.alloc (.cells #[.slice A5 cl c5, .slice A7 il c7, .slice A10 dl c10, .slice A11 4 c11] 22)) (g:=w11.heap.size) (Blk.made w11 22 #[.slice A5 cl c5, .slice A7 il c7, .slice A10 dl c10, .slice A11 4 c11]) 4 4 1 rfl);have q3:w3.heap.size<=(w11.alloc (.cells #[.slice A5 cl c5, .slice A7 il c7, .slice A10 dl c10, .slice A11 4 c11] 22)).heap.size:=Nat.le_trans hz11 (by simp);refine kZ rfl (.tmp 107) (.tmp 112) 31 rfl w3.heap.size 22 j0 _ 1 24 Tryz.underlying31 hj0 hy0 hy1 hy2 rfl (by decide) _ _ _ (by rfl) q1 _ _ _ _ (by rfl) q2 (by intro u hu;simp at hu;rcases hu with rfl|rfl|rfl|rfl<;>rfl) (by unfold maxLen;omega) (by omega) q3 ?_;intro v12 w12 hown12 hg12 hat12;obtain⟨g12,c12,rfl⟩:=hjZ hown12)
    have hq1:=HPR11.out.alloc (.cells #[.slice A5 cl c5, .slice A7 il c7, .slice A10 dl c10, .slice A11 4 c11] 22)
    have r5:=beZ (HO511.out.alloc _) hq1 (by decide) hg12
    have r7:=beZ (HO711.out.alloc _) hq1 (by decide) hg12
    have r10:=beZ (HO1011.out.alloc _) hq1 (by decide) hg12
    have r11:=beZ (HO11.out.alloc _) hq1 (by decide) hg12
    have rfr:FrsAt w12 w3.heap.size ps:=(HFR11.out.step (aZ (Below.refl _ _))).grown hq1 hg12
    have hB12:Below w3.heap.size w3 w12:=(HB11.out.alloc hz11 _).grown hg12 (by simp;omega) (fun y hy=>(World.ownsRow.lt HPR11.out y hy).1)
    have e5:(dbZ CB).length=cl:=by rw[tcZ,HCL.out]
    have e7:(dbZ IX).length=il:=by rw[tcZ,HIL.out]
    have e10:(dbZ DI).length=dl:=by rw[tcZ,HDL.out]
    have e11:(xeZ dl).length=4:=rfl
    obtain⟨PS,hPS⟩:∃PS:List Part,PS=ps++ [⟨A5,c5,dbZ CB⟩,⟨A7,c7,dbZ IX⟩,⟨A10,c10,dbZ DI⟩,⟨A11,c11,xeZ dl⟩]:=⟨_,rfl⟩
    have hPSl:PS.length=k+3+1:=by rw[hPS,List.length_append,HPL.out];rfl
    have hPSv:PS.map Part.v=ps.map Part.v++ [.slice A5 cl c5, .slice A7 il c7, .slice A10 dl c10, .slice A11 4 c11]:=by
     rw[hPS,List.map_append]
     simp only[List.map_cons,List.map_nil,Part.v,e5,e7,e10,e11]
    have hPSf:PS.flatMap Part.ls=MB:=by
     rw[hPS,List.flatMap_append,HJ.out,<-HPS.out,e10]
     simp[List.flatMap]
    have hsum:xcZ PS<=1000000000:=by
     unfold xcZ
     rw[hPSf,HJ.out]
     simp only[List.length_append,e5,e7,e10]
     have h1:=HFL.out
     have h2:(xeZ dl).length=4:=rfl
     omega
    have hok:∀p∈PS,p.Ok w12:=fun p hp=>by
     rw[hPS]at hp
     rcases List.mem_append.1 hp with hp|hp
     ·exact oZ (rfr p hp) rfl
     ·rcases List.mem_cons.1 hp with rfl|hp
      ·rw[<-e5]at r5;exact oZ r5 rfl
      ·rcases List.mem_cons.1 hp with rfl|hp
       ·rw[<-e7]at r7;exact oZ r7 rfl
       ·rcases List.mem_cons.1 hp with rfl|hp
        ·rw[<-e10]at r10;exact oZ r10 rfl
        ·rw[List.mem_singleton.1 hp];exact oZ r11 rfl
    have hgl12:=(World.ownsRow.lt hown12 g12 rfl).2
    have E12:=hid (qyZ w12 g12 (k+3+1) c12 PS hPSl (by omega) hsum hok hgl12 (fun i hi=>by
     rw[(Lz.own_cells hown12 (by rw[<-hPSl];exact hi)).1]
     have h:(PS.map Part.v)[i]? =some PS[i].v:=by rw[List.getElem?_map,List.getElem?_eq_getElem hi];rfl
     rw[hPSv]at h
     exact h))
    rw[hPSf]at E12
    have HB12:=hid hB12
    clear hq1 r5 r7 r10 r11 rfr e5 e7 e10 e11 hPS hPSl hPSv hPSf hsum hok hgl12 hown12 hg12 hat12 hB12 HPR11 HFR11 HO511 HO711 HO1011 HO11
    refine E12.out.mono ?_
    rintro e w13 ⟨v13,rfl,ho13,hb13⟩
    have HO13:=hid (lZ ho13 (Nat.le_trans HBW3.out.size HB12.out.size))
    have HB13:Hid (Below w.heap.size w w13):=iZ hb13 (Nat.le_trans HBW3.out.size HB12.out.size) (HBW3.out.trans (HB12.out.mono HBW3.out.size))
    clear ho13 hb13 E12
    go_wp2_with fail
    go_ret2
    exact⟨v13,rfl,HO13.out,HB13.out⟩
end Go.Proofs.YtbgoibedicbkjaaGreatDoor.Body
namespace Go.Proofs.YtbgoibedicbkjaaGreatDoor.Body
open Go.RowKit Mem Go.Proofs.YtbgoibedicbkjaaGreatDoor.Own Canon NumPut Crc
open Recs Opts Idx
open Go.Proofs.YtbgoibedicbkjaaGreatDoor.Block (oZ)
end Go.Proofs.YtbgoibedicbkjaaGreatDoor.Body
namespace Go.Proofs.YtbgoibedicbkjaaGreatDoor.Two
open Go.RowKit Mem Go.Proofs.YtbgoibedicbkjaaGreatDoor.Own Canon NumPut Crc
open Recs Opts Go.Proofs.YtbgoibedicbkjaaGreatDoor.One Go.Proofs.YtbgoibedicbkjaaGreatDoor.Body Idx
open Go.Proofs.YtbgoibedicbkjaaGreatDoor.Block (oZ ieZ)
theorem diZb(w:World)(o:Opt)(A:Option Addr)(n c:Nat)(l:List Rec)(ho:mdZ o=0)(hB:oeZ o=0)(hn:l.length=n)(hc:n<=c)(hok:∀r∈l,whZ r)(hk:ymZ l=0)(hcd:Cd o l n)(ht:TabAt w)(hg0:(rcZ o l).length=0)(hn0:n<=0)(ha:Row w w.heap.size A n 4 (veZ l)):
 Calls Tryz.prog 29 #[o.val, .slice A n c] w (vrZ o l w):=by
 obtain⟨c1,c2,c3,c4⟩:=hcd
 have hm:euZ o l=0:=by unfold euZ;rw[if_neg (by simp[hB]),if_neg (by simp[hk])]
 have D1:=hid (fun wx=>uiZ wx o)
 rw[ho]at D1
 have D2:=hid (fun wx (hx:Below w.heap.size w wx)=>ciZb wx o A n c l hB hn c1 hc hok hk c2 c3 (c4 hB) (ht.step hx) hg0 hn0 ((ha.below hx).mono hx.size))
 unfold wpZ at D2
 have hE:blZ o l=0:=by unfold blZ;rw[if_neg (by simp[ho]),hm]
 have hR:inZ o l=neZ o.block.toNat (zgZ o.plain) o.bucket.toNat++unZ o l:=if_pos hE
 have hML:=ltZ hn c1 hok c2 (c4 hB)
 have hmr:unZ o l=aiZ o l:=if_pos hm
 rw[<-hmr]at hML D2
 obtain⟨b1,b2,b3,b4⟩:16<=o.block/\o.block<=32768/\1<=o.bucket/\o.bucket<=64:=by
  unfold mdZ at ho
  split at ho
  ·rename_i h;exact⟨h.1.1,h.1.2,h.2.1.1,h.2.1.2⟩
  ·cases ho
 unfold vrZ
 rw[hE,hR]
 generalize unZ o l=R at *
 obtain⟨blk,pl,bu,da,pa,ch⟩:=o
 simp only at b1 b2 b3 b4
 obtain⟨S,rfl⟩:=Int.eq_ofNat_of_zero_le (show 0<=blk by omega)
 obtain⟨K,rfl⟩:=Int.eq_ofNat_of_zero_le (show 0<=bu by omega)
 have D3:=hid (fun wx (hx:Below w.heap.size w wx)=>biZb wx S K pl da pa ch (by omega) (by omega) (ht.step hx))
 have hcl:=ktZ (S:=S) (K:=K) (fl:=zgZ pl) (by omega) (by omega)
 unfold Opt.val at D1 D2 D3 ⊢
 simp only[Int.toNat_natCast]at D1 D2 D3 ⊢
 generalize neZ S (zgZ pl) K=HC at *
 obtain⟨r0,hr0⟩:∃r0,r0=R.length:=⟨_,rfl⟩
 obtain⟨h0,hh0⟩:∃h0,h0=HC.length:=⟨_,rfl⟩
 rw[<-hr0]at D2 hML
 rw[<-hh0]at D3 hcl
 have HRL:Hid (R.length=r0):=hr0.symm
 have HCL:Hid (HC.length=h0):=hh0.symm
 clear ht ha hok hn hE hR ho hm hk hB c1 c2 c3 c4 hg0 hn0 hmr b1 b3 hr0 hh0
 go_enter Tryz.func29,Tryz.ntmps29
 go_wp2_with fail
 have HBA:Hid (Blk (w.alloc (.cells #[.int .i64 S, .bool pl, .int .i64 K, .int .i64 da, .int .i64 pa, .int .i64 ch] 25)) w.heap.size 25 #[.int .i64 S, .bool pl, .int .i64 K, .int .i64 da, .int .i64 pa, .int .i64 ch]):=Blk.made _ _ _
 have HBW:Hid (Below w.heap.size w (w.alloc (.cells #[.int .i64 S, .bool pl, .int .i64 K, .int .i64 da, .int .i64 pa, .int .i64 ch] 25))):=aZ (Below.refl _ _)
 have hzw2:w.heap.size<(w.alloc (.cells #[.int .i64 S, .bool pl, .int .i64 K, .int .i64 da, .int .i64 pa, .int .i64 ch] 25)).heap.size:=by simp
 generalize w.alloc (.cells #[.int .i64 S, .bool pl, .int .i64 K, .int .i64 da, .int .i64 pa, .int .i64 ch] 25)=wa at *
 have HWA:Hid (∀wx,Below wa.heap.size wa wx->Below w.heap.size w wx):=fun wx h=>HBW.out.trans (h.mono HBW.out.size)
 refine(D1.out _).mono ?_
 rintro e w1 ⟨rfl,hb1⟩
 have B1:Hid (Below wa.heap.size wa w1):=hb1
 have E2:=hid (D2.out w1 (HWA.out _ hb1))
 have q:=hid (HBA.out.step B1.out)
 have k0:=q.out.cell 0
 have k1:=q.out.cell 1
 have k2:=q.out.cell 2
 have k3:=q.out.cell 3
 have k4:=q.out.cell 4
 have k5:=q.out.cell 5
 simp only[List.getElem?_toArray,List.getElem?_cons_zero,List.getElem?_cons_succ]at k0 k1 k2 k3 k4 k5
 clear q
 clear hb1 D1 D2
 go_wp2_with fail
 refine E2.out.mono ?_
 rintro e w2 ⟨v2,rfl,ho2,hb2⟩
 obtain⟨A2,cc2,rfl⟩:=bZ ho2
 have B2:Hid (Below wa.heap.size wa w2):=dZ hb2 B1.out
 have P2:Hid (Part.Ok (⟨A2,cc2,R⟩:Part) w2):=oZ ho2 HRL.out
 have E3:=hid (D3.out w2 (HWA.out _ B2.out))
 clear ho2 hb2 E2 B1 k0 k1 k2 k3 k4 k5 D3
 have q:=hid (HBA.out.step B2.out)
 have k0:=q.out.cell 0
 have k1:=q.out.cell 1
 have k2:=q.out.cell 2
 have k3:=q.out.cell 3
 have k4:=q.out.cell 4
 have k5:=q.out.cell 5
 simp only[List.getElem?_toArray,List.getElem?_cons_zero,List.getElem?_cons_succ]at k0 k1 k2 k3 k4 k5
 clear q
 go_wp2_with fail
 refine E3.out.mono ?_
 rintro e w3 ⟨v3,rfl,ho3,hb3⟩
 obtain⟨A3,cc3,rfl⟩:=bZ ho3
 have B3:Hid (Below wa.heap.size wa w3):=dZ hb3 B2.out
 have P3:Hid (Part.Ok (⟨A3,cc3,HC⟩:Part) w3):=oZ ho3 HCL.out
 have P23:Hid (Part.Ok (⟨A2,cc2,R⟩:Part) w3):=P2.out.step hb3
 have hs:xcZ [(⟨A3,cc3,HC⟩:Part),⟨A2,cc2,R⟩]<=1000000:=by
  have a:=HRL.out
  have b:=HCL.out
  simp[xcZ]
  omega
 clear ho3 hb3 E3 k0 k1 k2 k3 k4 k5 P2 B2
 have HV:Hid (([(⟨A3,cc3,HC⟩:Part),⟨A2,cc2,R⟩].map Part.v).toArray=#[.slice A3 h0 cc3, .slice A2 r0 cc2]):=by
  show _=_
  simp[Part.v,HCL.out,HRL.out]
 have HZ:Hid (w.heap.size<=w3.heap.size):=(HWA.out _ B3.out).size
 go_wp2_with fail
 refine(ffZ _ _ 2 [(⟨A3,cc3,HC⟩:Part),(⟨A2,cc2,R⟩:Part)] rfl (by omega) hs (fun p hp=>by{rcases List.mem_cons.1 hp with rfl|hp;exact P3.out.step (by(repeat(first|(with_reducible first|exact Below.refl _ _|assumption|refine Below.drew ?_|refine below_drewN ?_ _|refine aZ ?_|refine dZ (by assumption) ?_)|((with_reducible first|refine fZ ?_ ?_|refine gZ ?_ ?_|refine iZ (by assumption) ?_ ?_);(focus(first|(simp;done)|(simp;omega)|omega|(simp at *;omega)))))));rcases List.mem_cons.1 hp with rfl|hp;exact P23.out.step (by(repeat(first|(with_reducible first|exact Below.refl _ _|assumption|refine Below.drew ?_|refine below_drewN ?_ _|refine aZ ?_|refine dZ (by assumption) ?_)|((with_reducible first|refine fZ ?_ ?_|refine gZ ?_ ?_|refine iZ (by assumption) ?_ ?_);(focus(first|(simp;done)|(simp;omega)|omega|(simp at *;omega)))))));cases hp}) (by rw[HV.out];exact Blk.made _ _ _)).mono ?_
 rintro e w4 ⟨v4,rfl,ho4,hb4⟩
 have B4:Hid (Below w3.heap.size w3 w4):=dZ hb4 (aZ (Below.refl _ _))
 have h:=lZ ho4 (Nat.le_trans HZ.out (aZ (Below.refl _ _)).size)
 simp only[List.flatMap_cons,List.flatMap_nil,List.append_nil]at h
 have HO:=hid h
 clear h ho4 hb4 hs
 go_wp2_with fail
 go_ret2
 exact⟨_,rfl,HO.out,HWA.out _ (dZ B4.out B3.out)⟩
theorem mwZ(w:World)(ht:TabAt w):Calls Tryz.prog 8 #[] w fun e w'=>e= .returned (.bool true)/\Below w.heap.size w w':=by
 obtain⟨j0,hj0,hy0,hy1,hy2⟩:=info_parts acZ
 have hix:(ixR exB []).length<=99000:=(vhZb (o:=exB) (l:= []) (n:=0) rfl (by omega) (by simp[jlZ])).2 (by decide)
 have D1:=hid (diZb w exB none 0 0 [] (by decide) (by decide) rfl (Nat.le_refl _) (by simp) (by decide) ⟨by omega,by simp[ifZ],by simp[obZ],fun _=>hix⟩ ht (by simp[rcZ,vdZ,jfZ]) (Nat.le_refl _) Row.zero)
 unfold vrZ at D1
 rw[lzZ.1,lzZ.2]at D1
 unfold Opt.val exB at D1
 simp only at D1
 have DH:=hid (fun wx=>geZb wx 16 0 1 (by omega) (by omega) (by omega))
 have D2:Hid (∀wx:World,Calls Tryz.prog 32 #[.int .i64 0, .slice none 0 0, .slice none 0 0, .slice none 0 0, .slice (some ⟨wx.heap.size,0,none⟩) 1 1] (wx.alloc (.cells #[.int .u8 0] 5)) fun e w'=>∃v,e= .returned v/\w'.ownsRow (wx.alloc (.cells #[.int .u8 0] 5)).heap.size 5 1 v (aeZ 0 [] [] [] [0]).length (cZ .u8 (aeZ 0 [] [] [] [0]))/\Below (wx.alloc (.cells #[.int .u8 0] 5)).heap.size (wx.alloc (.cells #[.int .u8 0] 5)) w'):=fun wx=>by
  have hk3:Blk (wx.alloc (.cells #[.int .u8 0] 5)) wx.heap.size 5 #[.int .u8 0]:=Blk.made _ _ _
  exact yxZ (wx.alloc (.cells #[.int .u8 0] 5)) 0 0 0 0 0 0 1 none none none (some ⟨wx.heap.size,0,none⟩) [] [] [] [0] (by omega) (by omega) rfl rfl (by simp) (by simp) (by simp) (by simp) (by simp) (by simp) (World.ownsRow_nil _ _ _ _) (fun p hp=>by cases hp) Row.zero ⟨Row.zero,fun _=>⟨rfl,rfl⟩⟩ ⟨Row.of_blk hk3 hk3.lt fun i j hi hj=>by
   obtain rfl:j=0:=by omega
   match i,hi with
   |0,_=>rfl,fun e=>by cases e⟩
 have hF8:∀x∈neZ 16 0 1++aeZ 0 [] [] [] [0],x<=255:=fun x hx=>by
  rcases List.mem_append.1 hx with hx|hx
  ·exact zhZb (by omega) x hx
  ·exact yhZb (by simp) (by simp) (by simp) x hx
 have hhl:(neZ 16 0 1).length<=30:=ktZ (by omega) (by omega)
 have hfl:(aeZ 0 [] [] [] [0]).length<=300000:=by
  have h:=ltZ (o:=exB) (l:= []) (n:=0) rfl (by omega) (by simp) (by simp[ifZ]) hix
  rw[kzZ]at h
  exact h
 generalize aeZ 0 [] [] [] [0]=F at *
 generalize neZ 16 0 1=HC at *
 obtain⟨h0,hh0⟩:∃h0,h0=HC.length:=⟨_,rfl⟩
 obtain⟨f0,hf0⟩:∃f0,f0=F.length:=⟨_,rfl⟩
 rw[List.length_append,<-hh0,<-hf0]at D1
 rw[<-hh0]at DH hhl
 rw[<-hf0]at D2 hfl
 have hGL:(HC++F).length=h0+f0:=by rw[List.length_append,hh0,hf0]
 have HAP:Hid (cZ .u8 (HC++F)=cZ .u8 HC++cZ .u8 F):=woZ _ _ _
 generalize HC++F=G at *
 have DS:Hid (∀ (wx:World) Ax cx Ay cy,Part.Ok (⟨Ax,cx,G⟩:Part) wx->Part.Ok (⟨Ay,cy,G⟩:Part) wx->Calls Tryz.prog 30 #[.slice Ax (h0+f0) cx, .slice Ay (h0+f0) cy] wx fun e w'=>e= .returned (.bool true)/\wx=w'):=fun wx Ax cx Ay cy P Q=>by
  have p1:=P.row
  have q1:=Q.row
  simp only[hGL]at p1 q1
  refine(Huff.evZ wx Ax Ay (h0+f0) (h0+f0) cx cy G G hGL hGL (fun e=>hGL.symm.trans (P.nil e).1) (fun e=>hGL.symm.trans (Q.nil e).1) hF8 hF8 p1 q1).mono ?_
  rintro e w' ⟨rfl,rfl⟩
  exact⟨by simp,rfl⟩
 have HGL:=hid hGL
 clear hF8 ht hix hGL hh0 hf0
 go_enter Tryz.func8,Tryz.ntmps8
 go_wp2_with fail
 refine D1.out.mono ?_
 rintro e w1 ⟨v1,rfl,ho1,hb1⟩
 obtain⟨A1,c1,rfl⟩:=bZ ho1
 have P1:Hid (Part.Ok (⟨A1,c1,G⟩:Part) w1):=oZ ho1 HGL.out
 have HB1:=hid hb1
 clear ho1 hb1 D1
 go_wp2_with fail
 refine(DH.out w1).mono ?_
 rintro e w2 ⟨v2,rfl,ho2,hb2⟩
 obtain⟨A2,c2,rfl⟩:=bZ ho2
 have HO2:=hid ho2
 have HB2:=hid hb2
 have E2:=hid (D2.out w2)
 clear ho2 hb2 DH D2
 go_wp2_with fail
 refine E2.out.mono ?_
 rintro e w3 ⟨v3,rfl,ho3,hb3⟩
 obtain⟨A3,c3,rfl⟩:=bZ ho3
 have HS3:Hid (Src w3 A3 f0 c3 1 (cZ .u8 F)):=lbZ ho3
 have B23:Hid (Below w2.heap.size w2 w3):=dZ hb3 (aZ (Below.refl _ _))
 have HO3:Hid (w3.ownsRow w1.heap.size 5 1 (.slice A2 h0 c2) h0 (cZ .u8 HC)):=eZ HO2.out (fun y hy=>B23.out.block y (World.ownsRow.lt HO2.out y hy).2)
 have HB3:Hid (Below w1.heap.size w1 w3):=dZ B23.out HB2.out
 have hz3:=HB3.out.size
 clear ho3 hb3 E2 HO2 B23
 go_wp2_with(at_builtin;refine fyZ (by first|rfl|simp[Region.wanted,yielded]) (.tmp 12) (.tmp 14) 22 rfl w1.heap.size 5 j0 _ 1 1 Tryz.underlying22 hj0 hy0 hy1 hy2 rfl (by decide) _ _ _ (by rfl) HO3.out _ _ _ _ (by rfl) HS3.out (wZ _ _) (by unfold maxLen;omega) (by omega) hz3 ?_;intro v4 w4 hown4 hg4 hat4;have HB4:Hid (Below w1.heap.size w1 w4):=HB3.out.grown hg4 hz3 (fun y hy=>(World.ownsRow.lt HO3.out y hy).1);have HO4:Hid (w4.ownsRow w1.heap.size 5 1 v4 (h0+f0) (cZ .u8 G)):=(by rw[HAP.out];exact hown4);clear hown4 hg4 hat4;obtain⟨A4,c4,rfl⟩:=bZ HO4.out)
 refine(DS.out w4 A1 c1 A4 c4 (P1.out.step HB4.out) (oZ HO4.out HGL.out)).mono ?_
 rintro e w5 ⟨rfl,rfl⟩
 go_wp2_with fail
 go_ret
 exact⟨rfl,dZ HB4.out HB1.out⟩
end Go.Proofs.YtbgoibedicbkjaaGreatDoor.Two
namespace Go.Proofs.YtbgoibedicbkjaaGreatDoor.Body
open Go.RowKit Mem Go.Proofs.YtbgoibedicbkjaaGreatDoor.Own Canon Recs Idx
open Go.Proofs.YtbgoibedicbkjaaGreatDoor.Crc (TabAt)
theorem gbZb(w:World):Calls Tryz.prog 12 #[.pointer none] w fun e w'=>e= .returned (.slice none 0 0)/\w=w':=by
 go_enter Tryz.func12,Tryz.ntmps12
 go_wp2_with fail
 go_ret
 exact⟨rfl,rfl⟩
theorem ieZb(w:World):Calls Tryz.prog 14 #[.pointer none] w fun e w'=>e= .returned (.agg #[.slice none 0 0, .slice none 0 0])/\Below w.heap.size w w':=by
 go_enter Tryz.func14,Tryz.ntmps14
 go_wp2_with fail
 refine bodyPost_ret (v:= .agg #[.slice none 0 0, .slice none 0 0]) ?_ rfl ⟨rfl,?_⟩
 ·simp[results,Tryz.results14,go_sem]
 ·(repeat(first|(with_reducible first|exact Below.refl _ _|assumption|refine Below.drew ?_|refine below_drewN ?_ _|refine aZ ?_|refine dZ (by assumption) ?_)|((with_reducible first|refine fZ ?_ ?_|refine gZ ?_ ?_|refine iZ (by assumption) ?_ ?_);(focus(first|(simp;done)|(simp;omega)|omega|(simp at *;omega))))))
theorem hbZb(w:World):Calls Tryz.prog 13 #[.agg #[.slice none 0 0, .slice none 0 0], .agg #[.slice none 0 0, .slice none 0 0]] w fun e w'=>e= .returned (.bool true)/\Below w.heap.size w w':=by
 have C:=hid (fun wx=>eoZ wx none none 0 0 0 0 [] [] rfl rfl (by omega) Row.zero Row.zero)
 go_enter Tryz.func13,Tryz.ntmps13
 go_wp2_with fail
 refine(C.out _).mono ?_
 rintro e w' ⟨rfl,q,rfl⟩
 go_wp2_with fail
 go_loopw [5] (fun iv wx=>iv= .int .i64 0/\wx=((w.alloc (.cells #[.slice none 0 0, .slice none 0 0] 36)).alloc (.cells #[.slice none 0 0, .slice none 0 0] 36)).drewN q) (fun iv _=>0)
 case atStart=>exact⟨rfl,rfl⟩
 case round=>
  obtain⟨rfl,rfl⟩:=hrel
  go_wp2_with fail
  go_ret
  refine⟨rfl,?_⟩
  (repeat(first|(with_reducible first|exact Below.refl _ _|assumption|refine Below.drew ?_|refine below_drewN ?_ _|refine aZ ?_|refine dZ (by assumption) ?_)|((with_reducible first|refine fZ ?_ ?_|refine gZ ?_ ?_|refine iZ (by assumption) ?_ ?_);(focus(first|(simp;done)|(simp;omega)|omega|(simp at *;omega))))))
end Go.Proofs.YtbgoibedicbkjaaGreatDoor.Body
