/- A body of a log: the walk of body.Make. The reference's body of a log: -/
import Derived.Test.YtmlaajebadfkoaaGreatDoorZTwoPacks35
import Derived.Test.YtmlaajebadfkoaaGreatDoorZTwoPacks37
import Derived.Test.YtmlaajebadfkoaaGreatDoorZTwoPacks38
import Derived.Test.YtmlaajebadfkoaaGreatDoorZTwoPacks3
import Derived.Test.YtmlaajebadfkoaaGreatDoorZTwoPacks31
namespace Go.Proofs.YtmlaajebadfkoaaGreatDoor end Go.Proofs.YtmlaajebadfkoaaGreatDoor open Go.Proofs.YtmlaajebadfkoaaGreatDoor
open Go.Lib (hid)
set_option maxHeartbeats 8000000
set_option maxRecDepth 100000
namespace Go.Proofs.YtmlaajebadfkoaaGreatDoor.Body
open Go.RowKit Mem Go.Proofs.YtmlaajebadfkoaaGreatDoor.Own Canon NumPut Crc
open Recs Opts Idx
open Go.Proofs.YtmlaajebadfkoaaGreatDoor.Block (tbZ mkZ lZ ueZ enZ)
open Go.Proofs.YtmlaajebadfkoaaGreatDoor.One (FrsAt FrsAt.step FrsAt.grown FrsAt.snoc icZ hkZ krZ hnZ nlZ ulZ lrZ)
def hqZ(o:Opt)(l:List Rec)(w:World)(e:Ending)(w':World):Prop:=
 ∃v,e= .returned (.tuple #[v, .int .i64 0])/\w'.ownsRow w.heap.size 5 1 v (kfZ o l).length (dZ .u8 (kfZ o l))/\Below w.heap.size w w'
theorem voZb(w:World)(o:Opt)(A:Option Addr)(n c:Nat)(l:List Rec)(ho:hfZ o=0)(hn:l.length=n)(hN:n<=1000)(hc:n<=c)(hok:∀r∈l,ccZ r)(hk:pdZ l=0)(hb:(vZ false l).length<=16000)(hT:(ibZ (l.map oZ)).length<=20000)(hix:(ixR o l).length<=99000)(ht:TabAt w)(ha:Row w w.heap.size A n 4 (xbZ l)):
 Calls Tryz.prog 37 #[o.val, .slice A n c] w (hqZ o l w):=by
 obtain⟨j0,hj0,hy0,hy1,hy2⟩:=info_parts ulZ
 obtain⟨i0,hi0,hw0,hw1,hw2⟩:=info_parts Ef.zyZ
 have hlong:=hkZ hk
 obtain⟨hb1,hb2,hb3,hb4⟩:=dsZ ho
 have hgl:=pkZ o l
 have hgs:=okZ o l
 have hgp:∀x∈pbZ o l,1<=x:=One.mlZ _ _
 rw[hn]at hgl
 obtain⟨blk,pl,bu,da,pa,ch⟩:=o
 simp only at hb1 hb2 hb3 hb4
 obtain⟨S,rfl⟩:=Int.eq_ofNat_of_zero_le (show 0<=blk by omega)
 obtain⟨BU,rfl⟩:=Int.eq_ofNat_of_zero_le (show 0<=bu by omega)
 have D1:=hid (fun wx=>xpZ wx ⟨(S:Nat),pl,(BU:Nat),da,pa,ch⟩)
 rw[ho]at D1
 have D2:=hid (fun wx (hx:Below w.heap.size w wx)=>wvZ wx A n c l hn (by omega) ((ha.below hx).mono hx.size))
 rw[hk]at D2
 have D3:=hid (fun wx (hx:Below w.heap.size w wx)=>biZb wx S false A n c l (by omega) (by omega) hn (by omega) hok hlong ((ha.below hx).mono hx.size))
 have DC:=hid (fun wx (hx:Below w.heap.size w wx)=>oeZb wx A n c l hn (by omega) hc hok ((ha.below hx).mono hx.size))
 have hszl:∀r∈l,r.source.size<=50000/\r.text.size<=50000:=fun r hr=>by
  obtain⟨a,b⟩:=feZ (hlong r hr)
  omega
 have DB:=hid (fun wx (hx:Below w.heap.size w wx)=>jlZb wx A n c l hn (by omega) hszl ((ha.below hx).mono hx.size))
 unfold ioZ at DB
 have hix1:=scZb l
 have DX:=hid (fun wx base vT vL vals (h:IxAt wx base vT vL vals (ibZ (l.map oZ)) ((ibZ (l.map oZ)).map (ocZ (l.map oZ))))=>neZb wx BU n base vT vL vals (ibZ (l.map oZ)) ((ibZ (l.map oZ)).map (ocZ (l.map oZ))) (by omega) (by omega) (by omega) hT (by rw[List.length_map]) (hxZ (by omega)) (fun x hx=>(hix1.2 x hx).1) (by rw[<-hn];exact hix1.1) h)
 have hIXe:ixR ⟨(S:Nat),pl,(BU:Nat),da,pa,ch⟩ l=ixO BU n (ibZ (l.map oZ)) ((ibZ (l.map oZ)).map (ocZ (l.map oZ))):=by unfold ixR;rw[hn];rfl
 rw[<-hIXe]at DX
 unfold whZ at D3
 unfold jkZ at DC
 have hcE:gdZ S (fdZ false l)=pbZ ⟨(S:Nat),pl,(BU:Nat),da,pa,ch⟩ l:=rfl
 rw[hcE]at D3
 unfold hqZ Opt.val
 unfold Opt.val at D1
 simp only at D1 ⊢
 have HMB:Hid (kfZ ⟨(S:Nat),pl,(BU:Nat),da,pa,ch⟩ l=peZ n (pbZ ⟨(S:Nat),pl,(BU:Nat),da,pa,ch⟩ l) (vbZ false pl (pbZ ⟨(S:Nat),pl,(BU:Nat),da,pa,ch⟩ l) l) (neZ l) (ixR ⟨(S:Nat),pl,(BU:Nat),da,pa,ch⟩ l)):=by show _=_;unfold kfZ;rw[hn]
 have hcl:=wkZ hok (by omega)
 rw[hn]at hcl
 have hc8:=kuZ hok
 have hix8:=vcZb ⟨(S:Nat),pl,(BU:Nat),da,pa,ch⟩ l
 have hfl:=nkZ false pl (pbZ ⟨(S:Nat),pl,(BU:Nat),da,pa,ch⟩ l) l hb
 generalize kfZ ⟨(S:Nat),pl,(BU:Nat),da,pa,ch⟩ l=MB at *
 generalize pbZ ⟨(S:Nat),pl,(BU:Nat),da,pa,ch⟩ l=G at *
 generalize ixR ⟨(S:Nat),pl,(BU:Nat),da,pa,ch⟩ l=IX at *
 generalize neZ l=CB at *
 generalize ibZ (l.map oZ)=TS at *
 generalize TS.map (ocZ (l.map oZ))=LS at *
 obtain⟨g,hg⟩:∃g,g=G.length:=⟨_,rfl⟩
 rw[<-hg]at D3 hgl hfl
 obtain⟨FR,hFR⟩:∃FR,FR=vbZ false pl G l:=⟨_,rfl⟩
 rw[<-hFR]at HMB hfl
 have HFR:=hid hFR
 have HGL:=hid hg
 have HGS:=hid hgs
 have HPOS:=hid hgp
 have HT:=hid ht
 have HOK:=hid hok
 have HLO:=hid hlong
 have HN:=hid hn
 have HC8:=hid hc8
 have HFL:=hid hfl
 have HIX:=hid hix
 have HIX8:=hid hix8
 have HRA:Hid (Row w w.heap.size A n 4 (xbZ l)):=ha
 clear ho hk hcE hg hgs hgp ht hok hlong hFR hszl hix1 hIXe hc8 hfl hn hix ha hT hix8
 go_enter Tryz.func37,Tryz.ntmps37
 go_wp2_with fail
 have hba:Blk (w.alloc (.cells #[.int .i64 S, .bool pl, .int .i64 BU, .int .i64 da, .int .i64 pa, .int .i64 ch] 23)) w.heap.size 23 #[.int .i64 S, .bool pl, .int .i64 BU, .int .i64 da, .int .i64 pa, .int .i64 ch]:=Blk.made _ _ _
 have hbw:Below w.heap.size w (w.alloc (.cells #[.int .i64 S, .bool pl, .int .i64 BU, .int .i64 da, .int .i64 pa, .int .i64 ch] 23)):=aZ (Below.refl _ _)
 have hzw:(w.alloc (.cells #[.int .i64 S, .bool pl, .int .i64 BU, .int .i64 da, .int .i64 pa, .int .i64 ch] 23)).heap.size=w.heap.size+1:=by simp
 generalize w.alloc (.cells #[.int .i64 S, .bool pl, .int .i64 BU, .int .i64 da, .int .i64 pa, .int .i64 ch] 23)=wa at *
 have hzw2:w.heap.size<wa.heap.size:=by omega
 have HBW:=hid hbw
 have HS:Hid (∀wx,Below wa.heap.size wa wx->wx.cell? ⟨w.heap.size,0,none⟩=some (.int .i64 S)/\wx.cell? ⟨w.heap.size,1,none⟩=some (.bool pl)/\wx.cell? ⟨w.heap.size,2,none⟩=some (.int .i64 BU)):=fun wx h=>⟨(hba.step h).cell 0,(hba.step h).cell 1,(hba.step h).cell 2⟩
 have HWA:Hid (∀wx,Below wa.heap.size wa wx->Below w.heap.size w wx):=fun wx h=>hbw.trans (h.mono hbw.size)
 clear hba hbw hzw
 refine(D1.out _).mono ?_
 rintro e w1 ⟨rfl,hb1'⟩
 have B1:=hid hb1'
 have E2:=hid (D2.out w1 (HWA.out _ hb1'))
 clear hb1' D1 D2
 go_wp2_with fail
 refine E2.out.mono ?_
 rintro e w2 ⟨rfl,hb2'⟩
 have B2:Hid (Below wa.heap.size wa w2):=cZ hb2' B1.out
 have E3:=hid (D3.out w2 (HWA.out _ B2.out))
 have k0:=(HS.out w2 B2.out).1
 clear hb2' E2 D3 B1
 go_wp2_with fail
 refine E3.out.mono ?_
 rintro e w3 ⟨vG,rfl,hoG,hb3'⟩
 obtain⟨AG,cG,rfl⟩:=bZ hoG
 have B3:Hid (Below wa.heap.size wa w3):=cZ hb3' B2.out
 have HOG:=hid (nZ hoG B2.out.size)
 clear hb3' hoG E3 B2 k0
 have hbd:Blk (w3.alloc (.cells #[.slice AG g cG, .slice none 0 0, .int .i64 0, .int .i64 0] 82)) w3.heap.size 82 #[.slice AG g cG, .slice none 0 0, .int .i64 0, .int .i64 0]:=Blk.made _ _ _
 have d0:=hbd.cell 0
 simp only[List.getElem?_toArray,List.getElem?_cons_zero]at d0
 have hbb:Below w3.heap.size w3 (w3.alloc (.cells #[.slice AG g cG, .slice none 0 0, .int .i64 0, .int .i64 0] 82)):=aZ (Below.refl _ _)
 have HM0:Hid (MSt w3.heap.size w3.heap.size (.slice AG g cG) (.slice none 0 0) (.slice none 0 0) [] (w3.alloc (.cells #[.slice AG g cG, .slice none 0 0, .int .i64 0, .int .i64 0] 82))):=⟨hbd,World.ownsRow_nil _ _ _ _,(fun p hp=>by cases hp),World.ownsRow_nil _ _ _ _,Nat.le_refl _⟩
 go_wp2_with fail
 have HB0:=hid hbb
 clear hbd hbb d0
 generalize w3.alloc (.cells #[.slice AG g cG, .slice none 0 0, .int .i64 0, .int .i64 0] 82)=wd at *
 have HBW3:Hid (Below w.heap.size w w3):=HWA.out _ B3.out
 go_loopw [9,10,39] (fun pv av iv wx=>∃ (k at_:Nat) (ps:List Part) (vS:Value),k<=g/\at_<=n/\iv= .int .i64 k/\av= .int .i64 at_/\Hid (ps.map Part.ls++vbZ false pl (G.drop k) (l.drop at_)=FR)/\Hid (ps.length=k)/\Hid (at_+(G.drop k).sum=n)/\Hid (MSt w3.heap.size w3.heap.size (.slice AG g cG) pv vS ps wx)/\Hid (Below w3.heap.size w3 wx)) (fun _ _ iv _=>g-(intOf iv).toNat)
 case atStart=>exact⟨0,0,[],_,by omega,by omega,rfl,rfl,HFR.out.symm,rfl,by show _=_;rw[List.drop_zero,HGS.out,HN.out];omega,HM0.out,HB0.out⟩
 case round=>
  obtain⟨k,at_,ps,vS,hkg,hat,rfl,rfl,HF,HPL,HSM,HM,HB⟩:=hrel
  clear HM0 HB0
  have hz:=HB.out.size
  have hpr0:=HM.out.pr
  have hsr0:=HM.out.sr
  rw[HPL.out]at hpr0 hsr0
  obtain⟨AP,cP,rfl⟩:=bZ hpr0
  obtain⟨AS,cS,rfl⟩:=bZ hsr0
  clear hpr0 hsr0
  by_cases hlt:k<g
  ·have hkl:k<G.length:=by rw[<-HGL.out];exact hlt
   obtain⟨m,hm⟩:∃m,m=G[k]:=⟨_,rfl⟩
   have hdr:G.drop k=m :: G.drop (k+1):=by rw[hm];exact List.drop_eq_getElem_cons hkl
   have hsm:=HSM.out
   have hf:=HF.out
   rw[hdr]at hsm hf
   rw[List.sum_cons]at hsm
   rw[vbZ,List.drop_drop]at hf
   have HOGx:Hid (wr.ownsRow wa.heap.size 3 1 (.slice AG g cG) g (dZ .i64 G)):=fZ HOG.out (fun y hy=>HB.out.block y (World.ownsRow.lt HOG.out y hy).2)
   obtain⟨gb,gc,hAG,hgb,_⟩:=HOGx.out.form (by omega)
   injection hAG with e1 e2 e3
   subst e1 e3
   have cg:wr.cell? ⟨gb,k,none⟩=some (.int .i64 (m:Nat)):=by
    rw[(Lz.own_cells HOGx.out hlt).1]
    simp[dZ,List.getElem?_eq_getElem hkl,hm]
   have hml:at_+m<=n:=by omega
   have ks:=fun wx=>yaZb (P:=Tryz.prog) (t:=24) (s:=4) Tryz.underlying24 (fun _=>by kernel_rfl) A n c .i64 .i64 (at_:Int) ((at_+m:Nat):Int) at_ (at_+m) rfl rfl (by omega) (by omega) wx
   rw[Nat.add_sub_cancel_left]at ks
   have s1:IntKind.i64.wrap ((at_:Int)+(m:Int))=((at_+m:Nat):Int):=by rw[IntWalk.i64_in _ (by omega)];omega
   have hsub:((l.drop at_).take m).Sublist l:=(List.take_sublist _ _).trans (List.drop_sublist _ _)
   have hbl3:(vZ false ((l.drop at_).take m)).length<=16000:=Nat.le_trans (krZ false hsub) hb
   have hb8:=arZ false (l:=(l.drop at_).take m) (fun r hr=>HOK.out r (hsub.subset hr))
   have hrow:Row w w.heap.size (ycZ A at_ c 4) m 4 (xbZ ((l.drop at_).take m)):=HRA.out.cut at_ m hml hc (fun i j hi _=>by rw[nlZ,hnZ hi])
   have E1:=hid (fun wx (hx:Below w.heap.size w wx)=>vkZb wx false (ycZ A at_ c 4) m (c-at_) ((l.drop at_).take m) (by rw[List.length_take,List.length_drop,HN.out];omega) (by omega) (fun r hr=>HOK.out r (hsub.subset hr)) (fun r hr=>HLO.out r (hsub.subset hr)) (by omega) ((hrow.below hx).mono hx.size))
   have E2:=hid (fun wx A2 c2 (hx:Below w.heap.size w wx) (h:wx.ownsRow w3.heap.size 5 1 (.slice A2 (vZ false ((l.drop at_).take m)).length c2) (vZ false ((l.drop at_).take m)).length (dZ .u8 (vZ false ((l.drop at_).take m))))=>enZ wx A2 _ c2 _ pl rfl hbl3 (fun e=>(mjZ h).1 e) hb8 (HT.out.step hx) (Part.Ok.row (lZ h rfl)))
   unfold yiZ at E1
   unfold mkZ at E2
   have HF2:=hid hf
   have HSM2:Hid (at_+m+(G.drop (k+1)).sum=n):=by show _=_;omega
   have hwx:Below w.heap.size w wr:=HBW3.out.trans (HB.out.mono HBW3.out.size)
   have HWX:=hid hwx
   have x0:(0:Int)<=(k:Int):=by omega
   have x1:(k:Int)<(g:Int):=by omega
   have gk:decide ((k:Int)<(g:Int))=true:=by simp;omega
   have gk':decide (k<g)=true:=by simp;omega
   have hfm:=One.izZ pl hbl3
   have HS3:Hid (∀wx,Below w3.heap.size w3 wx->wx.cell? ⟨w.heap.size,1,none⟩=some (.bool pl)):=fun wx h=>(HS.out wx (cZ h B3.out)).2.1
   have kp:=HS3.out wr HB.out
   generalize vZ false ((l.drop at_).take m)=BB at *
   generalize tbZ BB pl=FF at *
   obtain⟨bl,hbl⟩:∃bl,bl=BB.length:=⟨_,rfl⟩
   rw[<-hbl]at E1 E2 hfm
   generalize ycZ A at_ c 4=AC at *
   generalize c-at_=cc at *
   obtain⟨am,ham⟩:∃am,am=at_+m:=⟨_,rfl⟩
   rw[<-ham]at ks s1 hml HSM2 HF2
   have HAM:=hid ham
   clear hkl hm hdr hsm hf HSM HF hb8 hwx hbl hbl3 hrow hsub ham
   go_upto_region 13 with fail
   go_region_held3 (fun wx=>wx.cell? ⟨w.heap.size,1,none⟩=some (.bool pl)) (first|exact kp|exact kp2|exact kp3) (first|(go_at_call 85;(with_reducible refine(E1.out _ (Below.drew HWX.out)).mono ?_);rintro e wA ⟨vA,rfl,hoA,hbA⟩;obtain⟨AA,cA,rfl⟩:=bZ hoA;have BA:Below w3.heap.size w3 wA:=cZ hbA (Below.drew HB.out);have HOA:wA.ownsRow w3.heap.size 5 1 (.slice AA bl cA) bl (dZ .u8 BB):=nZ hoA (by simpa using hz);have BWA:Below w.heap.size w wA:=cZ hbA (Below.drew HWX.out);have BRA:Below wr.heap.size wr wA:=cZ hbA (Below.drew (Below.refl _ _));have kp2:=HS3.out wA BA)|(go_at_call 84;(with_reducible refine(E2.out _ _ _ BWA HOA).mono ?_);rintro e wB ⟨vB,rfl,hoB,hbB⟩;obtain⟨AB,cB,rfl⟩:=bZ hoB;have BB2:Below w3.heap.size w3 wB:=cZ hbB BA;have BRB:Below wr.heap.size wr wB:=cZ hbB BRA;have kp3:=HS3.out wB BB2))
   all_goals
    have HMy:Hid (MSt w3.heap.size w3.heap.size (.slice (some ⟨gb,0,none⟩) g cG) (.slice AP k cP) (.slice AS k cS) ps wB):=HM.out.step BRB
    have HPy:Hid (wB.ownsRow w3.heap.size 5 1 (.slice AB FF.length cB) FF.length (dZ .u8 FF)):=nZ hoB (by have:=BA.size;omega)
    have HBy:=hid BB2
    have HRy:=hid BRB
    have hzy:=BB2.size
    obtain⟨fl2,hfl⟩:∃fl2,fl2=FF.length:=⟨_,rfl⟩
    rw[<-hfl]at HPy hfm ⊢
    have HFL2:=hid hfl
    have hpr:=HMy.out.pr
    have hsr:=HMy.out.sr
    rw[HPL.out]at hpr hsr
    have HPR:=hid hpr
    clear hbA hoA BA HOA BWA BRA kp2 hbB hoB BB2 BRB kp3 kp E1 E2 hfl hpr hsr
    go_wp2_with(first|(at_builtin;refine hZ rfl (.tmp 59) (.tmp 61) 39 rfl w3.heap.size 29 j0 _ 1 24 Tryz.underlying39 hj0 hy0 hy1 hy2 rfl (by decide) _ _ _ (by rfl) (HPR.out.alloc _) _ 1 1 [.slice AB fl2 cB] (by rfl) (Src.of_blk (g:=wB.heap.size) (Blk.made _ _ _) 1 1 1 rfl) (by intro u hu;simp at hu;rcases hu with rfl;rfl) (by unfold maxLen;omega) (by omega) (by simp;omega) ?_;intro v8 w8 hown8 hg8 hat8;obtain⟨d8,s8⟩:=HMy.out.mid hg8;rw[HPL.out]at s8;have D8:=hid d8;have S8:=hid s8;have c8:=d8.cell 1;simp only[List.getElem?_toArray,List.getElem?_cons_zero,List.getElem?_cons_succ]at c8;have hz8:w3.heap.size<=w8.heap.size:=Nat.le_trans hzy (Nat.le_trans (by simp) hg8.size);have HG8:=hid hg8;have HO8:=hid hown8;clear d8 s8 hg8 hown8 hat8)|(at_builtin;have q1:=S8.out.alloc (.cells #[.int .i64 (fl2:Nat)] 3);have q2:=(Src.of_blk (w:=w8.alloc (.cells #[.int .i64 (fl2:Nat)] 3)) (g:=w8.heap.size) (Blk.made w8 3 #[.int .i64 (fl2:Nat)]) 1 1 1 rfl);have q3:w3.heap.size<=(w8.alloc (.cells #[.int .i64 (fl2:Nat)] 3)).heap.size:=Nat.le_trans hz8 (by simp);have q4:=D8.out.alloc (.cells #[.int .i64 (fl2:Nat)] 3);refine hZ rfl (.tmp 64) (.tmp 67) 38 rfl w3.heap.size 3 i0 _ 1 8 Tryz.underlying38 hi0 hw0 hw1 hw2 rfl (by decide) _ _ _ (by rfl) q1 _ _ _ _ (by rfl) q2 (by intro u hu;simp at hu;rcases hu with rfl;rfl) (by unfold maxLen;omega) (by omega) q3 ?_;intro v9 w9 hown9 hg9 hat9;obtain⟨A9,c9,rfl⟩:=bZ hown9;have d9:=q4.grown hg9 (Ne.symm (kZ q1 q4 (by decide)));have p9:=d9.cell 1;have q9:=d9.frozen 1;simp only[List.getElem?_toArray,List.getElem?_cons_zero,List.getElem?_cons_succ]at p9;clear q1 q2 q3 q4))
    have hM9:=MSt.round (p:=⟨AB,cB,FF⟩) (pv':=v8) (vS':= .slice A9 (k+1) c9) HMy.out (by show World.ownsRow _ _ _ _ (.slice AB FF.length cB) FF.length (dZ .u8 FF);rw[<-HFL2.out];exact HPy.out) HG8.out (by rw[HPL.out];show World.ownsRow _ _ _ _ _ _ (_++ [.slice AB FF.length cB]);rw[<-HFL2.out];exact HO8.out) hg9 (by rw[HPL.out];show World.ownsRow _ _ _ _ _ _ (_++ [.int .i64 (FF.length:Nat)]);rw[<-HFL2.out];exact hown9)
    have HM9:=hid hM9.1
    have HB9:Hid (Below w3.heap.size w3 (w9.setCell ⟨w3.heap.size,1,none⟩ (.slice A9 (k+1) c9))):=HBy.out.trans hM9.2
    clear hM9 hown9 hg9 hat9 d9 HG8 HO8 D8 S8 HMy HPR HPy HM HB HRy
    go_wp2_with fail
    go_roundw
    case measure=>go_light;simp[intOf];omega
    case rel=>go_light;exact⟨k+1,am,ps++ [(⟨AB,cB,FF⟩:Part)], .slice A9 (k+1) c9,by omega,hml,by first|rfl|go_num,by first|rfl|go_num,by show _=_;rw[List.map_append,List.append_assoc];exact HF2.out,by show _=_;rw[List.length_append,HPL.out];rfl,HSM2.out,HM9.out,HB9.out⟩
  ·obtain rfl:k=g:=by omega
   have gk:decide ((k:Int)<(k:Int))=false:=by simp
   have gk':decide (k<k)=false:=by simp
   have hf:=HF.out
   rw[List.drop_of_length_le (by rw[<-HGL.out];exact Nat.le_refl _),vbZ,List.append_nil]at hf
   have HPS:=hid hf
   have HWX:Hid (Below w.heap.size w wr):=HBW3.out.trans (HB.out.mono HBW3.out.size)
   have E4:=hid (DC.out wr HWX.out)
   clear hf HF HSM
   go_wp2_with fail
   refine E4.out.mono ?_
   rintro e w4 ⟨v4,rfl,ho4,hb4'⟩
   obtain⟨A4,c4,rfl⟩:=bZ ho4
   have P4:Hid (Part.Ok (⟨A4,c4,CB⟩:Part) w4):=lZ ho4 rfl
   have HW4:Hid (Below w.heap.size w w4):=cZ hb4' HWX.out
   have HM4:=hid (HM.out.step hb4')
   have HB4:Hid (Below w3.heap.size w3 w4):=gZ hb4' hz HB.out
   have E5:=hid (put_any w4 A4 CB.length c4 CB rfl (by omega) P4.out.nil HC8.out (HT.out.step HW4.out) P4.out.row)
   unfold nfZ at E5
   obtain⟨cl,hcl4⟩:∃cl,cl=CB.length+4:=⟨_,rfl⟩
   rw[<-hcl4]at E5
   have HCL:=hid hcl4
   have hclb:cl<=30000:=by omega
   clear ho4 hb4' E4 DC hcl4 HM HB P4
   go_wp2_with fail
   refine E5.out.mono ?_
   rintro e w5 ⟨v5,rfl,ho5,hb5⟩
   obtain⟨A5,c5,rfl⟩:=bZ ho5
   have HW5:Hid (Below w.heap.size w w5):=cZ hb5 HW4.out
   have HM5:=hid (HM4.out.step hb5)
   have HB5:Hid (Below w3.heap.size w3 w5):=gZ hb5 HB4.out.size HB4.out
   have HO5:Hid (w5.ownsRow w3.heap.size 5 1 (.slice A5 cl c5) cl (dZ .u8 (gbZ CB))):=nZ ho5 HB4.out.size
   have HS5:Hid (∀wx,Below w3.heap.size w3 wx->wx.cell? ⟨w.heap.size,2,none⟩=some (.int .i64 BU)):=fun wx h=>(HS.out wx (cZ h B3.out)).2.2
   have kp:=HS5.out w5 HB5.out
   clear ho5 hb5 E5 HM4 HB4 HW4
   go_upto_region 21 with fail
   go_region_held3 (fun wx=>wx.cell? ⟨w.heap.size,2,none⟩=some (.int .i64 BU)) (first|exact kp|exact kp2|exact kp3) (first|(go_at_call 74;(with_reducible refine(DB.out _ (Below.drew HW5.out)).mono ?_);rintro e wA ⟨vT,vL,vals,rfl,hIX,hbA⟩;have BA:Below w5.heap.size w5 wA:=cZ hbA (Below.drew (Below.refl _ _));have kp2:=HS5.out wA (gZ BA HB5.out.size HB5.out))|(go_at_call 88;(with_reducible refine(DX.out _ _ _ _ _ hIX).mono ?_);rintro e w6 ⟨v6,rfl,ho6,hb6⟩;obtain⟨A6,c6,rfl⟩:=bZ ho6;have B6:Below w5.heap.size w5 w6:=cZ hb6 BA;have kp3:=HS5.out w6 (gZ B6 HB5.out.size HB5.out)))
   all_goals
    have P6:Hid (Part.Ok (⟨A6,c6,IX⟩:Part) w6):=lZ ho6 rfl
    have HM6:=hid (HM5.out.step B6)
    have HB6:Hid (Below w3.heap.size w3 w6):=gZ B6 HB5.out.size HB5.out
    have HW6:Hid (Below w.heap.size w w6):=cZ B6 HW5.out
    have HO56:Hid (w6.ownsRow w3.heap.size 5 1 (.slice A5 cl c5) cl (dZ .u8 (gbZ CB))):=fZ HO5.out fun y hy=>B6.block y (World.ownsRow.lt HO5.out y hy).2
    have E7:=hid (put_any w6 A6 IX.length c6 IX rfl (by have:=HIX.out;omega) P6.out.nil HIX8.out (HT.out.step HW6.out) P6.out.row)
    unfold nfZ at E7
    obtain⟨il,hil⟩:∃il,il=IX.length+4:=⟨_,rfl⟩
    rw[<-hil]at E7
    have HIL:=hid hil
    have hilb:il<=99004:=by have:=HIX.out;omega
    clear hIX hbA BA kp2 ho6 hb6 B6 kp3 kp hil HO5 HB5 HW5 HM5 P6
    go_wp2_with fail
    refine E7.out.mono ?_
    rintro e w7 ⟨v7,rfl,ho7,hb7⟩
    obtain⟨A7,c7,rfl⟩:=bZ ho7
    have HM7:=hid (HM6.out.step hb7)
    have HB7:Hid (Below w3.heap.size w3 w7):=gZ hb7 HB6.out.size HB6.out
    have HW7:Hid (Below w.heap.size w w7):=cZ hb7 HW6.out
    have HO7:Hid (w7.ownsRow w3.heap.size 5 1 (.slice A7 il c7) il (dZ .u8 (gbZ IX))):=nZ ho7 HB6.out.size
    have HO57:Hid (w7.ownsRow w3.heap.size 5 1 (.slice A5 cl c5) cl (dZ .u8 (gbZ CB))):=fZ HO56.out fun y hy=>hb7.block y (World.ownsRow.lt HO56.out y hy).2
    have HOG7:Hid (w7.ownsRow wa.heap.size 3 1 (.slice AG k cG) k (dZ .i64 G)):=fZ HOG.out fun y hy=>HB7.out.block y (World.ownsRow.lt HOG.out y hy).2
    have dc2:=HM7.out.dir.cell 2
    have dc3:=HM7.out.dir.cell 3
    have df2:=HM7.out.dir.frozen 2
    have df3:=HM7.out.dir.frozen 3
    simp only[List.getElem?_toArray,List.getElem?_cons_zero,List.getElem?_cons_succ]at dc2 dc3
    clear ho7 hb7 E7 HM6 HB6 HW6 HO56
    go_wp2_with fail
    obtain⟨hd8,hbl8,hk8⟩:=HM7.out.stores (.int .i64 (cl:Nat)) (.int .i64 (il:Nat))
    have ho5:=hk8 HO57.out (by decide)
    have ho7:=hk8 HO7.out (by decide)
    have hoG:=hk8 HOG7.out (by decide)
    have hpr:=hk8 HM7.out.pr (by decide)
    have hsr:=hk8 HM7.out.sr (by decide)
    have hfr:FrsAt _ w3.heap.size ps:=fun p hp=>hk8 (HM7.out.fr p hp) (by decide)
    have hB8:=HB7.out.trans hbl8
    have hW8:=HW7.out.trans (hbl8.mono HBW3.out.size)
    rw[HPL.out]at hpr hsr
    clear hk8 hbl8 HO57 HO7 HOG7 HM7 HB7 HW7 dc2 dc3 df2 df3
    generalize (w7.setCell ⟨w3.heap.size,2,none⟩ (.int .i64 (cl:Nat))).setCell ⟨w3.heap.size,3,none⟩ (.int .i64 (il:Nat))=w8 at *
    obtain⟨SZ,hSZ⟩:∃SZ,SZ=ps.map (fun p=>p.ls.length):=⟨_,rfl⟩
    rw[<-hSZ]at hsr
    have hSl:SZ.length=k:=by rw[hSZ,List.length_map];exact HPL.out
    have hSF:FR.map List.length=SZ:=by rw[<-HPS.out,hSZ,List.map_map];rfl
    have hSb:∀z∈SZ,z<=1000000000:=fun z hz=>by
     rw[<-hSF]at hz
     obtain⟨f,hf,rfl⟩:=List.mem_map.1 hz
     have h1:=One.fgZb hf
     have h2:=HFL.out
     omega
    have hGn:G.sum=n:=HGS.out.trans HN.out
    have E9:=hid (rcZb w8 w3.heap.size k cG cS cl il w8.heap.size AG AS G SZ HGL.out.symm hSl (by omega) (by omega) hSb (by omega) (by omega) hd8 (Ef.foZ hoG HGL.out.symm) (Ef.foZ hsr hSl) (Nat.le_refl _))
    rw[hGn]at E9
    have hDl:=qcZb (n:=n) (G:=G) (S:=SZ) (x:=cl) (y:=il) (by omega) (by rw[<-HGL.out];omega) (fun z hz=>by have:=le_sum hz;omega) hSb (by omega) (by omega)
    have hD8:=gxZ n G SZ cl il
    rw[<-HGL.out]at hDl
    have HJ:Hid (MB=FR.flatten++(gbZ CB++(gbZ IX++(gbZ (xgZ n G SZ cl il)++wfZ (gbZ (xgZ n G SZ cl il)).length)))):=by
     show _=_
     rw[HMB.out]
     unfold peZ
     rw[hSF,edZ CB,edZ IX,<-HCL.out,<-HIL.out]
    generalize xgZ n G SZ cl il=DI at *
    have HO5:=hid ho5
    have HO7:=hid ho7
    have HPR:=hid hpr
    have HFRS:=hid hfr
    have HB8:=hid hB8
    have HW8:=hid hW8
    have HD8:=hid hD8
    clear ho5 ho7 hoG hpr hsr hfr hB8 hW8 hSZ hSl hSF hSb hGn hd8 hD8 HMB
    refine E9.out.mono ?_
    rintro e w9 ⟨v9,rfl,ho9,hb9⟩
    obtain⟨A9,c9,rfl⟩:=bZ ho9
    have P9:Hid (Part.Ok (⟨A9,c9,DI⟩:Part) w9):=lZ ho9 rfl
    have HB9:Hid (Below w3.heap.size w3 w9):=gZ hb9 HB8.out.size HB8.out
    have HW9:Hid (Below w.heap.size w w9):=cZ hb9 HW8.out
    have E10:=hid (put_any w9 A9 DI.length c9 DI rfl (by omega) P9.out.nil HD8.out (HT.out.step HW9.out) P9.out.row)
    unfold nfZ at E10
    obtain⟨dl,hdl⟩:∃dl,dl=DI.length+4:=⟨_,rfl⟩
    rw[<-hdl]at E10
    have HDL:=hid hdl
    have hdlb:dl<=30000:=by omega
    have hk9:∀y,y<w8.heap.size->w9.heap[y]? =w8.heap[y]? :=hb9.block
    have HO59:Hid (w9.ownsRow w3.heap.size 5 1 (.slice A5 cl c5) cl (dZ .u8 (gbZ CB))):=fZ HO5.out fun y hy=>hb9.block y (World.ownsRow.lt HO5.out y hy).2
    have HO79:Hid (w9.ownsRow w3.heap.size 5 1 (.slice A7 il c7) il (dZ .u8 (gbZ IX))):=fZ HO7.out fun y hy=>hb9.block y (World.ownsRow.lt HO7.out y hy).2
    have HPR9:Hid (w9.ownsRow w3.heap.size 29 1 (.slice AP k cP) k (ps.map Part.v)):=fZ HPR.out fun y hy=>hb9.block y (World.ownsRow.lt HPR.out y hy).2
    have HFR9:Hid (FrsAt w9 w3.heap.size ps):=HFRS.out.step hb9
    clear ho9 hb9 E9 hdl HO5 HO7 HPR HFRS hk9 HB8 HW8 P9
    go_wp2_with fail
    refine E10.out.mono ?_
    rintro e w10 ⟨v10,rfl,ho10,hb10⟩
    obtain⟨A10,c10,rfl⟩:=bZ ho10
    have HB10:Hid (Below w3.heap.size w3 w10):=gZ hb10 HB9.out.size HB9.out
    have HW10:Hid (Below w.heap.size w w10):=cZ hb10 HW9.out
    have E11:=hid (eiZb w10 dl (by omega))
    have u9:IntKind.u64.wrap (dl:Int)=(dl:Int):=by rw[IntKind.wrap_u64];omega
    have HO10:Hid (w10.ownsRow w3.heap.size 5 1 (.slice A10 dl c10) dl (dZ .u8 (gbZ DI))):=nZ ho10 HB9.out.size
    have HO510:Hid (w10.ownsRow w3.heap.size 5 1 (.slice A5 cl c5) cl (dZ .u8 (gbZ CB))):=fZ HO59.out fun y hy=>hb10.block y (World.ownsRow.lt HO59.out y hy).2
    have HO710:Hid (w10.ownsRow w3.heap.size 5 1 (.slice A7 il c7) il (dZ .u8 (gbZ IX))):=fZ HO79.out fun y hy=>hb10.block y (World.ownsRow.lt HO79.out y hy).2
    have HPR10:Hid (w10.ownsRow w3.heap.size 29 1 (.slice AP k cP) k (ps.map Part.v)):=fZ HPR9.out fun y hy=>hb10.block y (World.ownsRow.lt HPR9.out y hy).2
    have HFR10:Hid (FrsAt w10 w3.heap.size ps):=HFR9.out.step hb10
    clear ho10 hb10 E10 HO59 HO79 HPR9 HFR9 HB9 HW9
    go_wp2_with fail
    refine E11.out.mono ?_
    rintro e w11 ⟨v11,rfl,ho11,hb11⟩
    obtain⟨A11,c11,rfl⟩:=bZ ho11
    have HB11:Hid (Below w3.heap.size w3 w11):=gZ hb11 HB10.out.size HB10.out
    have HW11:Hid (Below w.heap.size w w11):=cZ hb11 HW10.out
    have HO11:Hid (w11.ownsRow w3.heap.size 5 1 (.slice A11 4 c11) 4 (dZ .u8 (wfZ dl))):=nZ ho11 HB10.out.size
    have HO1011:Hid (w11.ownsRow w3.heap.size 5 1 (.slice A10 dl c10) dl (dZ .u8 (gbZ DI))):=fZ HO10.out fun y hy=>hb11.block y (World.ownsRow.lt HO10.out y hy).2
    have HO511:Hid (w11.ownsRow w3.heap.size 5 1 (.slice A5 cl c5) cl (dZ .u8 (gbZ CB))):=fZ HO510.out fun y hy=>hb11.block y (World.ownsRow.lt HO510.out y hy).2
    have HO711:Hid (w11.ownsRow w3.heap.size 5 1 (.slice A7 il c7) il (dZ .u8 (gbZ IX))):=fZ HO710.out fun y hy=>hb11.block y (World.ownsRow.lt HO710.out y hy).2
    have HPR11:Hid (w11.ownsRow w3.heap.size 29 1 (.slice AP k cP) k (ps.map Part.v)):=fZ HPR10.out fun y hy=>hb11.block y (World.ownsRow.lt HPR10.out y hy).2
    have HFR11:Hid (FrsAt w11 w3.heap.size ps):=HFR10.out.step hb11
    have hz11:=HB11.out.size
    clear ho11 hb11 E11 HO10 HO510 HO710 HPR10 HFR10 HB10 HW10
    go_wp2_with(at_builtin;have q1:=HPR11.out.alloc (.cells #[.slice A5 cl c5, .slice A7 il c7, .slice A10 dl c10, .slice A11 4 c11] 29);have q2:=(Src.of_blk (w:=w11.alloc (.cells #[.slice A5 cl c5, .slice A7 il c7, .slice A10 dl c10, .slice A11 4 c11] 29)) (g:=w11.heap.size) (Blk.made w11 29 #[.slice A5 cl c5, .slice A7 il c7, .slice A10 dl c10, .slice A11 4 c11]) 4 4 1 rfl);have q3:w3.heap.size<=(w11.alloc (.cells #[.slice A5 cl c5, .slice A7 il c7, .slice A10 dl c10, .slice A11 4 c11] 29)).heap.size:=Nat.le_trans hz11 (by simp);refine hZ rfl (.tmp 107) (.tmp 112) 39 rfl w3.heap.size 29 j0 _ 1 24 Tryz.underlying39 hj0 hy0 hy1 hy2 rfl (by decide) _ _ _ (by rfl) q1 _ _ _ _ (by rfl) q2 (by intro u hu;simp at hu;rcases hu with rfl|rfl|rfl|rfl<;>rfl) (by unfold maxLen;omega) (by omega) q3 ?_;intro v12 w12 hown12 hg12 hat12;obtain⟨g12,c12,rfl⟩:=deZ hown12)
    have hq1:=HPR11.out.alloc (.cells #[.slice A5 cl c5, .slice A7 il c7, .slice A10 dl c10, .slice A11 4 c11] 29)
    have r5:=icZ (HO511.out.alloc _) hq1 (by decide) hg12
    have r7:=icZ (HO711.out.alloc _) hq1 (by decide) hg12
    have r10:=icZ (HO1011.out.alloc _) hq1 (by decide) hg12
    have r11:=icZ (HO11.out.alloc _) hq1 (by decide) hg12
    have rfr:FrsAt w12 w3.heap.size ps:=(HFR11.out.step (aZ (Below.refl _ _))).grown hq1 hg12
    have hB12:Below w3.heap.size w3 w12:=(HB11.out.alloc hz11 _).grown hg12 (by simp;omega) (fun y hy=>(World.ownsRow.lt HPR11.out y hy).1)
    have e5:(gbZ CB).length=cl:=by rw[edZ,HCL.out]
    have e7:(gbZ IX).length=il:=by rw[edZ,HIL.out]
    have e10:(gbZ DI).length=dl:=by rw[edZ,HDL.out]
    have e11:(wfZ dl).length=4:=rfl
    obtain⟨PS,hPS⟩:∃PS:List Part,PS=ps++ [⟨A5,c5,gbZ CB⟩,⟨A7,c7,gbZ IX⟩,⟨A10,c10,gbZ DI⟩,⟨A11,c11,wfZ dl⟩]:=⟨_,rfl⟩
    have hPSl:PS.length=k+3+1:=by rw[hPS,List.length_append,HPL.out];rfl
    have hPSv:PS.map Part.v=ps.map Part.v++ [.slice A5 cl c5, .slice A7 il c7, .slice A10 dl c10, .slice A11 4 c11]:=by
     rw[hPS,List.map_append]
     simp only[List.map_cons,List.map_nil,Part.v,e5,e7,e10,e11]
    have hPSf:PS.flatMap Part.ls=MB:=by
     rw[hPS,List.flatMap_append,HJ.out,<-HPS.out,e10]
     simp[List.flatMap]
    have hsum:acZ PS<=1000000000:=by
     unfold acZ
     rw[hPSf,HJ.out]
     simp only[List.length_append,e5,e7,e10]
     have h1:=HFL.out
     have h2:(wfZ dl).length=4:=rfl
     omega
    have hok:∀p∈PS,p.Ok w12:=fun p hp=>by
     rw[hPS]at hp
     rcases List.mem_append.1 hp with hp|hp
     ·exact lZ (rfr p hp) rfl
     ·rcases List.mem_cons.1 hp with rfl|hp
      ·rw[<-e5]at r5;exact lZ r5 rfl
      ·rcases List.mem_cons.1 hp with rfl|hp
       ·rw[<-e7]at r7;exact lZ r7 rfl
       ·rcases List.mem_cons.1 hp with rfl|hp
        ·rw[<-e10]at r10;exact lZ r10 rfl
        ·rw[List.mem_singleton.1 hp];exact lZ r11 rfl
    have hgl12:=(World.ownsRow.lt hown12 g12 rfl).2
    have E12:=hid (yeZb w12 g12 (k+3+1) c12 PS hPSl (by omega) hsum hok hgl12 (fun i hi=>by
     rw[(Lz.own_cells hown12 (by rw[<-hPSl];exact hi)).1]
     have h:(PS.map Part.v)[i]? =some PS[i].v:=by rw[List.getElem?_map,List.getElem?_eq_getElem hi];rfl
     rw[hPSv]at h
     exact h))
    rw[hPSf]at E12
    have HB12:=hid hB12
    clear hq1 r5 r7 r10 r11 rfr e5 e7 e10 e11 hPS hPSl hPSv hPSf hsum hok hgl12 hown12 hg12 hat12 hB12 HPR11 HFR11 HO511 HO711 HO1011 HO11
    refine E12.out.mono ?_
    rintro e w13 ⟨v13,rfl,ho13,hb13⟩
    have HO13:=hid (nZ ho13 (Nat.le_trans HBW3.out.size HB12.out.size))
    have HB13:Hid (Below w.heap.size w w13):=gZ hb13 (Nat.le_trans HBW3.out.size HB12.out.size) (HBW3.out.trans (HB12.out.mono HBW3.out.size))
    clear ho13 hb13 E12
    go_wp2_with fail
    go_ret2
    exact⟨v13,rfl,HO13.out,HB13.out⟩
end Go.Proofs.YtmlaajebadfkoaaGreatDoor.Body
namespace Go.Proofs.YtmlaajebadfkoaaGreatDoor.Body
open Go.RowKit Mem Go.Proofs.YtmlaajebadfkoaaGreatDoor.Own Canon NumPut Crc
open Recs Opts Idx
open Go.Proofs.YtmlaajebadfkoaaGreatDoor.Block (lZ)
open Go.Proofs.YtmlaajebadfkoaaGreatDoor.One (FrsAt FrsAt.step hkZ)
theorem slZb(w:World)(o:Opt)(A:Option Addr)(n c:Nat)(l:List Rec)(ho:hfZ o=0)(hn:l.length=n)(hN:n<=1000)(hc:n<=c)(hok:∀r∈l,ccZ r)(hk:pdZ l=0)(hb:(vZ false l).length<=16000)(hT:(ibZ (l.map oZ)).length<=20000)(hix:(ixR o l).length<=99000)(ht:TabAt w)(ha:Row w w.heap.size A n 4 (xbZ l)):
 Calls Tryz.prog 41 #[o.val, .slice A n c] w (hqZ o l w):=by
 have hlong:=hkZ hk
 obtain⟨hb1,hb2,hb3,hb4⟩:=dsZ ho
 have hgl:=pkZ o l
 rw[hn]at hgl
 have D1:=hid (fun wx=>rnZ wx o)
 rw[ho]at D1
 have D2:=hid (fun wx (hx:Below w.heap.size w wx)=>refcheck_any wx A n c l hn (by omega) ((ha.below hx).mono hx.size))
 rw[hk]at D2
 have D3:=hid (fun wx (hx:Below w.heap.size w wx)=>qzZ wx o A n c l ho hn hN hc hok hk hb (ht.step hx) ((ha.below hx).mono hx.size))
 unfold omZ at D3
 have DC:=hid (fun wx (hx:Below w.heap.size w wx)=>zcZb wx A n c l hn (by omega) hok ((ha.below hx).mono hx.size))
 unfold jkZ at DC
 have hszl:∀r∈l,r.source.size<=50000/\r.text.size<=50000:=fun r hr=>by
  obtain⟨a,b⟩:=feZ (hlong r hr)
  omega
 have DB:=hid (fun wx (hx:Below w.heap.size w wx)=>oiZb wx A n c l hn (by omega) hszl ((ha.below hx).mono hx.size))
 unfold ioZ at DB
 have hix1:=scZb l
 have DX:=hid (fun wx base vT vL vals (h:IxAt wx base vT vL vals (ibZ (l.map oZ)) ((ibZ (l.map oZ)).map (ocZ (l.map oZ))))=>kcZb wx o.bucket.toNat n base vT vL vals (ibZ (l.map oZ)) ((ibZ (l.map oZ)).map (ocZ (l.map oZ))) (by omega) (by omega) (by omega) hT (by rw[List.length_map]) (hxZ (by omega)) (fun x hx=>(hix1.2 x hx).1) (fun x hx=>by have:=(hix1.2 x hx).2;omega) (by rw[<-hn];exact hix1.1) h)
 have hIXe:ixR o l=ixO o.bucket.toNat n (ibZ (l.map oZ)) ((ibZ (l.map oZ)).map (ocZ (l.map oZ))):=by unfold ixR;rw[hn]
 rw[<-hIXe]at DX
 have hcl:=wkZ hok (by omega)
 rw[hn]at hcl
 have hc8:=kuZ hok
 have hx8:=vcZb o l
 have hfl:=nkZ false o.plain (pbZ o l) l hb
 have hGb:∀z∈pbZ o l,z<=1000000:=fun z hz=>by
  have h1:=le_sum hz
  rw[okZ,hn]at h1
  omega
 have HMB:Hid (kfZ o l=peZ n (pbZ o l) (vbZ false o.plain (pbZ o l) l) (neZ l) (ixR o l)):=by show _=_;unfold kfZ;rw[hn]
 obtain⟨g,hg⟩:∃g,g=(pbZ o l).length:=⟨_,rfl⟩
 have D5:=hid (fun wx base AF cF ps AG cG AC cc AX cx (hpl:ps.length=g) (hls:ps.map Part.ls=vbZ false o.plain (pbZ o l) l)=>gtZ wx n g base cF cG cc cx AF AG AC AX ps (pbZ o l) (neZ l) (ixR o l) (by omega) (by omega) hpl hg.symm hGb (by rw[hls];omega) (by omega) (by omega) hc8 hx8)
 unfold hqZ
 rw[ikZ,<-hg]at D3
 generalize kfZ o l=MB at *
 generalize ixR o l=IX at *
 generalize neZ l=CB at *
 generalize ibZ (l.map oZ)=TS at *
 generalize TS.map (ocZ (l.map oZ))=LS at *
 generalize vbZ false o.plain (pbZ o l) l=FR at *
 generalize pbZ o l=G at *
 obtain⟨S,pl,bu,da,pa,ch⟩:=o
 simp only at *
 obtain⟨BU,rfl⟩:=Int.eq_ofNat_of_zero_le (show 0<=bu by omega)
 simp only[Int.toNat_natCast]at DX
 unfold Opt.val at D1 D3 ⊢
 simp only at D1 D3 ⊢
 have HG:=hid hg
 clear ho hn hok hk hb ht ha hlong hszl hix1 hIXe hc8 hx8 hGb hfl hT hix hg
 go_enter Tryz.func41,Tryz.ntmps41
 go_wp2_with fail
 have hba:Blk (w.alloc (.cells #[.int .i64 S, .bool pl, .int .i64 BU, .int .i64 da, .int .i64 pa, .int .i64 ch] 23)) w.heap.size 23 #[.int .i64 S, .bool pl, .int .i64 BU, .int .i64 da, .int .i64 pa, .int .i64 ch]:=Blk.made _ _ _
 have hbw:Below w.heap.size w (w.alloc (.cells #[.int .i64 S, .bool pl, .int .i64 BU, .int .i64 da, .int .i64 pa, .int .i64 ch] 23)):=aZ (Below.refl _ _)
 have hzw:(w.alloc (.cells #[.int .i64 S, .bool pl, .int .i64 BU, .int .i64 da, .int .i64 pa, .int .i64 ch] 23)).heap.size=w.heap.size+1:=by simp
 generalize w.alloc (.cells #[.int .i64 S, .bool pl, .int .i64 BU, .int .i64 da, .int .i64 pa, .int .i64 ch] 23)=wa at *
 have hzw2:w.heap.size<wa.heap.size:=by omega
 have HWA:Hid (∀wx,Below wa.heap.size wa wx->Below w.heap.size w wx):=fun wx h=>hbw.trans (h.mono hbw.size)
 have HBA:=hid hba
 clear hba hbw hzw
 refine(D1.out _).mono ?_
 rintro e w1 ⟨rfl,hb1'⟩
 have B1:=hid hb1'
 have E2:=hid (D2.out w1 (HWA.out _ hb1'))
 clear hb1' D1 D2
 go_wp2_with fail
 refine E2.out.mono ?_
 rintro e w2 ⟨rfl,hb2'⟩
 have B2:Hid (Below wa.heap.size wa w2):=cZ hb2' B1.out
 have E3:=hid (D3.out w2 (HWA.out _ B2.out))
 have HB2b:=hid (HBA.out.step B2.out)
 have k0:=HB2b.out.cell 0
 have k1:=HB2b.out.cell 1
 have k2:=HB2b.out.cell 2
 have k3:=HB2b.out.cell 3
 have k4:=HB2b.out.cell 4
 have k5:=HB2b.out.cell 5
 simp only[List.getElem?_toArray,List.getElem?_cons_zero,List.getElem?_cons_succ]at k0 k1 k2 k3 k4 k5
 clear hb2' E2 D3 B1 HB2b
 go_wp2_with fail
 refine E3.out.mono ?_
 rintro e w3 ⟨vF,vG,ps,rfl,hoF,hfs,hls,hoG,hb3'⟩
 obtain⟨AF,cF,rfl⟩:=bZ hoF
 obtain⟨AG,cG,rfl⟩:=bZ hoG
 have B3:Hid (Below wa.heap.size wa w3):=cZ hb3' B2.out
 have hpl:ps.length=g:=by
  have h:=hoF.1
  rw[List.length_map,Nat.mul_one]at h
  exact h
 have HLS:=hid hls
 have HOF:=hid hoF
 have HFS:=hid hfs
 have HOG:=hid hoG
 have HPL:=hid hpl
 have HBW3:=hid (HWA.out _ B3.out)
 have HS5:Hid (∀wx,Below w3.heap.size w3 wx->wx.cell? ⟨w.heap.size,2,none⟩=some (.int .i64 BU)):=fun wx h=>(HBA.out.step (cZ h B3.out)).cell 2
 have kp:=HS5.out w3 (Below.refl _ _)
 clear hb3' hoF hfs hls hpl hoG E3 k0 k1 k2 k3 k4 k5
 go_upto_region 7 with fail
 go_region_held3 (fun wx=>wx.cell? ⟨w.heap.size,2,none⟩=some (.int .i64 BU)) (first|exact kp|exact kp2|exact kp3) (first|(go_at_call 75;(with_reducible refine(DB.out _ (Below.drew HBW3.out)).mono ?_);rintro e wA ⟨vT,vL,vals,rfl,hIX,hbA⟩;have BA:Below w3.heap.size w3 wA:=cZ hbA (Below.drew (Below.refl _ _));have kp2:=HS5.out wA BA)|(go_at_call 95;(with_reducible refine(DX.out _ _ _ _ _ hIX).mono ?_);rintro e w6 ⟨v6,rfl,ho6,hb6⟩;obtain⟨A6,c6,rfl⟩:=bZ ho6;have B6:Below w3.heap.size w3 w6:=cZ hb6 BA;have kp3:=HS5.out w6 B6))
 all_goals
  have P6:Hid (Part.Ok (⟨A6,c6,IX⟩:Part) w6):=lZ ho6 rfl
  have HW6:Hid (Below w.heap.size w w6):=gZ B6 HBW3.out.size HBW3.out
  have HB6:=hid B6
  have E7:=hid (DC.out w6 HW6.out)
  clear hIX hbA BA kp2 ho6 hb6 B6 kp3 kp DC DX DB
  go_wp2_with fail
  refine E7.out.mono ?_
  rintro e w7 ⟨v7,rfl,ho7,hb7⟩
  obtain⟨A7,c7,rfl⟩:=bZ ho7
  have P7:Part.Ok (⟨A7,c7,CB⟩:Part) w7:=lZ ho7 rfl
  have P67:=P6.out.step hb7
  have hB7:Below w3.heap.size w3 w7:=gZ hb7 HB6.out.size HB6.out
  have hof:=fZ HOF.out (fun y hy=>hB7.block y (World.ownsRow.lt HOF.out y hy).2)
  have hfs7:=HFS.out.step hB7
  have hog:=fZ HOG.out (fun y hy=>hB7.block y (World.ownsRow.lt HOG.out y hy).2)
  have hog2:w7.ownsRow w2.heap.size 3 1 (.slice AG g cG) g (dZ .i64 G):=hog
  have E8:=hid (D5.out w7 w2.heap.size AF cF ps AG cG A7 c7 A6 c6 HPL.out HLS.out hof hfs7 (Ef.foZ hog2 HG.out.symm) P7 P67)
  rw[HLS.out,<-HMB.out]at E8
  have HW7:Hid (Below w.heap.size w w7):=cZ hb7 HW6.out
  clear ho7 hb7 P7 P67 hB7 hof hfs7 hog hog2 E7 D5 HMB HOF HFS HOG P6 HB6 HW6
  go_wp2_with fail
  refine E8.out.mono ?_
  rintro e w8 ⟨v8,rfl,ho8,hb8⟩
  have HO8:=hid (nZ ho8 HW7.out.size)
  have HB8:=hid (cZ hb8 HW7.out)
  clear ho8 hb8 E8
  go_wp2_with fail
  go_ret2
  exact⟨v8,rfl,HO8.out,HB8.out⟩
end Go.Proofs.YtmlaajebadfkoaaGreatDoor.Body
namespace Go.Proofs.YtmlaajebadfkoaaGreatDoor.Body
open Go.RowKit Mem Go.Proofs.YtmlaajebadfkoaaGreatDoor.Own Canon NumPut Crc
open Recs Opts Idx
open Go.Proofs.YtmlaajebadfkoaaGreatDoor.Block (lZ)
def Cd(o:Opt)(l:List Rec)(n:Nat):Prop:=n<=1000/\(vZ false l).length<=16000/\(ibZ (l.map oZ)).length<=20000/\(hfZ o=0->(ixR o l).length<=99000)
theorem peZb{l:List Rec}{n:Nat}(hn:l.length=n)(hok:∀r∈l,ccZ r)(hk:pdZ l=0)(h1:(n:Int)<=60)(h2:nbZ l<=4000):(vZ false l).length<=16000:=by
 have:=xvZ false hok (One.hkZ hk)
 rw[hn]at this
 omega
theorem inZ{o:Opt}(h:hfZ o≠0):hfZ o=9:=wpZ h
def mcZ(o:Opt)(l:List Rec):Int:=if hfZ o≠0 then hfZ o else if pdZ l≠0 then pdZ l else 0
def geZ(o:Opt)(l:List Rec):List Nat:=if mcZ o l=0 then kfZ o l else []
def dfZ(o:Opt)(l:List Rec)(w:World)(e:Ending)(w':World):Prop:=
 ∃v,e= .returned (.tuple #[v, .int .i64 (mcZ o l)])/\w'.ownsRow w.heap.size 5 1 v (geZ o l).length (dZ .u8 (geZ o l))/\Below w.heap.size w w'
theorem tlZb(w:World)(o:Opt)(A:Option Addr)(n c:Nat)(l:List Rec)(hn:l.length=n)(hN:n<=9223372036854775807)(hc:n<=c)(hok:∀r∈l,ccZ r)(hcd:pdZ l=0->Cd o l n)(ht:TabAt w)(ha:Row w w.heap.size A n 4 (xbZ l)):
 Calls Tryz.prog 37 #[o.val, .slice A n c] w (dfZ o l w):=by
 by_cases ho:hfZ o=0
 ·by_cases hk:pdZ l=0
  ·obtain⟨h1,h2,h3,h4⟩:=hcd hk
   have hE:mcZ o l=0:=by unfold mcZ;rw[if_neg (by simp[ho]),if_neg (by simp[hk])]
   have hR:geZ o l=kfZ o l:=if_pos hE
   unfold dfZ
   rw[hE,hR]
   exact voZb w o A n c l ho hn h1 hc hok hk h2 h3 (h4 ho) ht ha
  ·have h6:=One.liZ hk
   have hE:mcZ o l=6:=by unfold mcZ;rw[if_neg (by simp[ho]),if_pos hk,h6]
   have hR:geZ o l= []:=if_neg (by rw[hE];simp)
   have D1:=hid (fun wx=>xpZ wx o)
   rw[ho]at D1
   have D2:=hid (fun wx (hx:Below w.heap.size w wx)=>wvZ wx A n c l hn hN ((ha.below hx).mono hx.size))
   rw[h6]at D2
   unfold dfZ
   rw[hE,hR]
   unfold Opt.val at D1 ⊢
   clear hcd ht ha hok hn hk h6 hE hR ho
   go_enter Tryz.func37,Tryz.ntmps37
   go_wp2_with fail
   refine(D1.out _).mono ?_
   rintro e w1 ⟨rfl,hb1⟩
   have B1:Hid (Below w.heap.size w w1):=cZ hb1 (aZ (Below.refl _ _))
   have E2:=hid (D2.out w1 B1.out)
   clear hb1 D1 D2
   go_wp2_with fail
   refine E2.out.mono ?_
   rintro e w2 ⟨rfl,hb2⟩
   have B2:Hid (Below w.heap.size w w2):=cZ hb2 B1.out
   clear hb2 E2 B1
   go_wp2_with fail
   go_ret2
   exact⟨_,rfl,World.ownsRow_nil _ _ _ _,B2.out⟩
 ·have h9:=inZ ho
  have hE:mcZ o l=9:=by unfold mcZ;rw[if_pos ho,h9]
  have hR:geZ o l= []:=if_neg (by rw[hE];simp)
  have D1:=hid (fun wx=>xpZ wx o)
  rw[h9]at D1
  unfold dfZ
  rw[hE,hR]
  unfold Opt.val at D1 ⊢
  clear hcd ht ha hok hn hE hR ho h9
  go_enter Tryz.func37,Tryz.ntmps37
  go_wp2_with fail
  refine(D1.out _).mono ?_
  rintro e w1 ⟨rfl,hb1⟩
  have B1:Hid (Below w.heap.size w w1):=cZ hb1 (aZ (Below.refl _ _))
  clear hb1 D1
  go_wp2_with fail
  go_ret2
  exact⟨_,rfl,World.ownsRow_nil _ _ _ _,B1.out⟩
theorem uiZb(w:World)(o:Opt)(A:Option Addr)(n c:Nat)(l:List Rec)(hn:l.length=n)(hN:n<=9223372036854775807)(hc:n<=c)(hok:∀r∈l,ccZ r)(hcd:pdZ l=0->Cd o l n)(ht:TabAt w)(ha:Row w w.heap.size A n 4 (xbZ l)):
 Calls Tryz.prog 41 #[o.val, .slice A n c] w (dfZ o l w):=by
 by_cases ho:hfZ o=0
 ·by_cases hk:pdZ l=0
  ·obtain⟨h1,h2,h3,h4⟩:=hcd hk
   have hE:mcZ o l=0:=by unfold mcZ;rw[if_neg (by simp[ho]),if_neg (by simp[hk])]
   have hR:geZ o l=kfZ o l:=if_pos hE
   unfold dfZ
   rw[hE,hR]
   exact slZb w o A n c l ho hn h1 hc hok hk h2 h3 (h4 ho) ht ha
  ·have h6:=One.liZ hk
   have hE:mcZ o l=6:=by unfold mcZ;rw[if_neg (by simp[ho]),if_pos hk,h6]
   have hR:geZ o l= []:=if_neg (by rw[hE];simp)
   have D1:=hid (fun wx=>rnZ wx o)
   rw[ho]at D1
   have D2:=hid (fun wx (hx:Below w.heap.size w wx)=>refcheck_any wx A n c l hn hN ((ha.below hx).mono hx.size))
   rw[h6]at D2
   unfold dfZ
   rw[hE,hR]
   unfold Opt.val at D1 ⊢
   clear hcd ht ha hok hn hk h6 hE hR ho
   go_enter Tryz.func41,Tryz.ntmps41
   go_wp2_with fail
   refine(D1.out _).mono ?_
   rintro e w1 ⟨rfl,hb1⟩
   have B1:Hid (Below w.heap.size w w1):=cZ hb1 (aZ (Below.refl _ _))
   have E2:=hid (D2.out w1 B1.out)
   clear hb1 D1 D2
   go_wp2_with fail
   refine E2.out.mono ?_
   rintro e w2 ⟨rfl,hb2⟩
   have B2:Hid (Below w.heap.size w w2):=cZ hb2 B1.out
   clear hb2 E2 B1
   go_wp2_with fail
   go_ret2
   exact⟨_,rfl,World.ownsRow_nil _ _ _ _,B2.out⟩
 ·have h9:=inZ ho
  have hE:mcZ o l=9:=by unfold mcZ;rw[if_pos ho,h9]
  have hR:geZ o l= []:=if_neg (by rw[hE];simp)
  have D1:=hid (fun wx=>rnZ wx o)
  rw[h9]at D1
  unfold dfZ
  rw[hE,hR]
  unfold Opt.val at D1 ⊢
  clear hcd ht ha hok hn hE hR ho h9
  go_enter Tryz.func41,Tryz.ntmps41
  go_wp2_with fail
  refine(D1.out _).mono ?_
  rintro e w1 ⟨rfl,hb1⟩
  have B1:Hid (Below w.heap.size w w1):=cZ hb1 (aZ (Below.refl _ _))
  clear hb1 D1
  go_wp2_with fail
  go_ret2
  exact⟨_,rfl,World.ownsRow_nil _ _ _ _,B1.out⟩
theorem jwZ(wh pl:Bool):∀ (cs:List Nat) (l:List Rec),(∀r∈l,ccZ r)->∀x∈(vbZ wh pl cs l).flatten,x<=255
 | [],_,_=>by simp[vbZ]
 |c :: t,l,h=>by
  intro x hx
  rw[vbZ,List.flatten_cons]at hx
  rcases List.mem_append.1 hx with hx|hx
  ·have h8:=arZ wh (l:=l.take c) (fun r hr=>h r (List.mem_of_mem_take hr))
   generalize vZ wh (l.take c)=bs at *
   unfold Block.tbZ Block.teZ Block.ilZ at hx
   simp only[List.mem_append,List.mem_singleton]at hx
   rcases hx with (((rfl|hx)|hx)|hx)|hx
   ·unfold Block.dkZ;split<;>omega
   ·exact mbZ _ x hx
   ·exact mbZ _ x hx
   ·unfold Block.kdZ at hx
    split at hx
    ·exact Block.spZ _ x hx
    ·exact h8 x hx
   ·have:=dqZ _ x hx;omega
  ·exact jwZ wh pl t _ (fun r hr=>h r (List.mem_of_mem_drop hr)) x hx
theorem pqZb(x:Nat):∀y∈wfZ x,y<=255:=fun y h=>by
 unfold wfZ at h
 simp only[List.mem_cons,List.not_mem_nil,or_false]at h
 rcases h with rfl|rfl|rfl|rfl<;>omega
theorem adZb{n:Nat}{G:List Nat}{FS:List (List Nat)}{cols idx:List Nat}(h1:∀x∈FS.flatten,x<=255)(h2:∀x∈cols,x<=255)(h3:∀x∈idx,x<=255):∀x∈peZ n G FS cols idx,x<=255:=fun x hx=>by
 unfold peZ at hx
 simp only[List.mem_append]at hx
 rcases hx with hx|hx|hx|hx|hx
 ·exact h1 x hx
 ·exact fxZ h2 x hx
 ·exact fxZ h3 x hx
 ·exact fxZ (gxZ _ _ _ _ _) x hx
 ·exact pqZb _ x hx
theorem woZb{o:Opt}{l:List Rec}(hok:∀r∈l,ccZ r):∀x∈geZ o l,x<=255:=by
 unfold geZ
 split
 ·unfold kfZ
  exact adZb (jwZ _ _ _ _ hok) (kuZ hok) (vcZb o l)
 ·intro x hx;cases hx
def exB:Opt:=⟨16,false,1,0,0,0⟩
theorem ggZb:kfZ exB []=peZ 0 [] [] [] [0]:=by
 have h1:ixR exB []= [0]:=by
  unfold ixR ixO lbZ ceZ
  simp[ibZ,rlZ,cmZ,qdZ]
 have h2:pbZ exB []= []:=rfl
 have h3:neZ ([]:List Rec)= []:=by
  unfold neZ
  simp[fbZ,yZ,jbZ,lvB]
 unfold kfZ
 rw[h1,h2,h3]
 rfl
end Go.Proofs.YtmlaajebadfkoaaGreatDoor.Body
namespace Go.Proofs.YtmlaajebadfkoaaGreatDoor.Two
open Go.RowKit Mem Go.Proofs.YtmlaajebadfkoaaGreatDoor.Own Canon NumPut Crc
open Recs Opts Go.Proofs.YtmlaajebadfkoaaGreatDoor.One
open Go.Proofs.YtmlaajebadfkoaaGreatDoor.Block (lZ ueZ)
def wjZ(S fl K:Nat):List Nat:=ldZ 2++(iZ S++([fl]++(iZ K++ [])))
def qeZ(S fl K:Nat):List Nat:=wjZ S fl K++zeZ (mfZ (wjZ S fl K))
theorem quZ{S fl K:Nat}(h:fl<=1):∀x∈wjZ S fl K,x<=255:=by
 intro x hx
 unfold wjZ at hx
 simp only[List.mem_append,List.mem_singleton,List.append_nil]at hx
 rcases hx with hx|hx|rfl|hx
 ·revert x;decide
 ·exact mbZ _ x hx
 ·omega
 ·exact mbZ _ x hx
theorem bdZb{S fl K:Nat}(h:fl<=1):∀x∈qeZ S fl K,x<=255:=by
 intro x hx
 unfold qeZ at hx
 rcases List.mem_append.1 hx with hx|hx
 ·exact quZ h x hx
 ·have:=dqZ _ x hx;omega
theorem orZ{S fl K:Nat}(hS:S<=32768)(hK:K<=64):(wjZ S fl K).length<=26:=by
 have h1:=mZ (x:=S) (by omega)
 have h2:=mZ (x:=K) (by omega)
 unfold wjZ
 simp[ldZ]
 omega
theorem prZ{S fl K:Nat}(hS:S<=32768)(hK:K<=64):(qeZ S fl K).length<=30:=by
 have h1:=orZ (fl:=fl) hS hK
 unfold qeZ
 rw[List.length_append]
 have:(zeZ (mfZ (wjZ S fl K))).length=4:=rfl
 omega
theorem xoZb(wx:World):Part.Ok (⟨some ⟨wx.heap.size,0,none⟩,1,[1]⟩:Part) (wx.alloc (.cells #[.int .u8 1] 5)):=
 ueZ (show Blk (wx.alloc (.cells #[.int .u8 1] 5)) wx.heap.size 5 #[.int .u8 ((1:Nat):Int)] from Blk.made _ _ _)
theorem ulZb(wx:World):Part.Ok (⟨some ⟨wx.heap.size,0,none⟩,1,[0]⟩:Part) (wx.alloc (.cells #[.int .u8 0] 5)):=
 ueZ (show Blk (wx.alloc (.cells #[.int .u8 0] 5)) wx.heap.size 5 #[.int .u8 ((0:Nat):Int)] from Blk.made _ _ _)
theorem vlZb(w:World):
 Calls Tryz.prog 92 #[.int .i64 2] w fun e w'=>∃v,e= .returned (.tuple #[v, .int .i64 0])/\w'.ownsRow w.heap.size 5 1 v 5 (dZ .u8 (ldZ 2))/\Below w.heap.size w w':=by
 obtain⟨j0,hj0,hy0,hy1,hy2⟩:=info_parts hbZ
 have D:=hid (fun wx=>tpZ wx 2 1 3)
 have hd:decide ((1:Int)<=2/\(2:Int)<=3)=true:=by decide
 rw[hd]at D
 go_enter Tryz.func92,Tryz.ntmps92
 go_wp2_with fail
 refine(D.out _).mono ?_
 rintro e w1 ⟨rfl,rfl⟩
 clear D hd
 have kc:=fun(w:World) (C:Array Value) (n c:Nat)=>Lib.run_convert_bytes_const (P:=Tryz.prog) w 29 5 C n c Tryz.underlying29 Tryz.underlying5
 have c1:IntKind.u8.wrap 2=2:=rfl
 have HB:Hid (Below w1.heap.size w1 ((w1.alloc (.cells #[.int .u8 70, .int .u8 73, .int .u8 82, .int .u8 75] 5 (4,5))).alloc (.cells #[.int .u8 2] 5))):=aZ (aZ (Below.refl _ _))
 have HC:Hid (∀j v,([.int .u8 70, .int .u8 73, .int .u8 82, .int .u8 75]:List Value)[j]? =some v->((w1.alloc (.cells #[.int .u8 70, .int .u8 73, .int .u8 82, .int .u8 75] 5 (4,5))).alloc (.cells #[.int .u8 2] 5)).cell? ((⟨w1.heap.size,0,none⟩:Addr).add j)=some v):=fun j v hj=>by
  have e:=(aZ (Below.refl (w1.alloc (.cells #[.int .u8 70, .int .u8 73, .int .u8 82, .int .u8 75] 5 (4,5))).heap.size (w1.alloc (.cells #[.int .u8 70, .int .u8 73, .int .u8 82, .int .u8 75] 5 (4,5)))) (o:=(.cells #[.int .u8 2] 5))).cell (p:=⟨w1.heap.size,j,none⟩) (by simp)
  rw[add_none,Nat.zero_add,e,World.cell?_alloc_mark]
  simpa using hj
 have HN:Hid (∀j v,([.int .u8 2]:List Value)[j]? =some v->((w1.alloc (.cells #[.int .u8 70, .int .u8 73, .int .u8 82, .int .u8 75] 5 (4,5))).alloc (.cells #[.int .u8 2] 5)).cell? ((⟨w1.heap.size+1,0,none⟩:Addr).add j)=some v):=fun j v hj=>by
  have hb:Blk ((w1.alloc (.cells #[.int .u8 70, .int .u8 73, .int .u8 82, .int .u8 75] 5 (4,5))).alloc (.cells #[.int .u8 2] 5)) (w1.heap.size+1) 5 #[.int .u8 2]:=Blk.made_at _ _ _ (by simp)
  rw[add_none,Nat.zero_add,hb.cell]
  simpa using hj
 go_wp2_with(at_builtin;refine gwZ rfl (.tmp 8) (.tmp 11) 29 rfl 5 j0 Tryz.underlying29 hj0 hy0 hy1 hy2 ⟨w1.heap.size,0,none⟩ 4 4 [.int .u8 70, .int .u8 73, .int .u8 82, .int .u8 75] (by rfl) rfl HC.out _ 1 1 [.int .u8 2] (by rfl) rfl HN.out (by omega) (by omega) ?_;intro v4 w4 hown4 hb4)
 go_ret2
 exact⟨_,rfl,nZ hown4 HB.out.size,cZ hb4 HB.out⟩
theorem yoZb(w:World)(S K:Nat)(pl:Bool)(da pa ch:Int)(hS:S<=32768)(hK:K<=64)(ht:TabAt w):
 Calls Tryz.prog 39 #[(Opt.val ⟨(S:Nat),pl,(K:Nat),da,pa,ch⟩)] w fun e w'=>∃v,e= .returned v/\w'.ownsRow w.heap.size 5 1 v (qeZ S (oeZ pl) K).length (dZ .u8 (qeZ S (oeZ pl) K))/\Below w.heap.size w w':=by
 unfold Opt.val
 simp only
 have D4:=hid (fun wx=>vlZb wx)
 have D5:=hid (fun wx=>zcZ wx S (by omega))
 have D6:=hid (fun wx=>zcZ wx K (by omega))
 have u1:IntKind.u64.wrap (S:Int)=(S:Int):=by rw[IntKind.wrap_u64];omega
 have u2:IntKind.u64.wrap (K:Int)=(K:Int):=by rw[IntKind.wrap_u64];omega
 have hl:=orZ (S:=S) (K:=K) (fl:=oeZ pl) hS hK
 have H8a:=quZ (S:=S) (fl:=oeZ pl) (K:=K) (by unfold oeZ;split<;>omega)
 have hx1:=mZ (x:=S) (by omega)
 have hx2:=mZ (x:=K) (by omega)
 obtain⟨HC,hHC⟩:∃HC,HC=qeZ S (oeZ pl) K:=⟨_,rfl⟩
 rw[<-hHC]
 unfold qeZ at hHC
 obtain⟨H0,hH0⟩:∃H0,H0=wjZ S (oeZ pl) K:=⟨_,rfl⟩
 rw[<-hH0]at hHC hl H8a
 obtain⟨h0,hh0⟩:∃h0,h0=H0.length:=⟨_,rfl⟩
 rw[<-hh0]at hl
 have HHC:=hid hHC
 have H8:=hid H8a
 unfold wjZ at hH0
 generalize iZ S=X1 at *
 generalize iZ K=X2 at *
 have HH:Hid (H0=ldZ 2++(X1++([oeZ pl]++(X2++ [])))/\H0.length=h0):=⟨hH0,hh0.symm⟩
 clear hHC H8a hH0 hh0 hS hK
 cases pl with
 |true=>
  have HH0:Hid (H0=ldZ 2++(X1++([1]++(X2++ [])))/\H0.length=h0):=HH
  clear HH
  go_enter Tryz.func39,Tryz.ntmps39
  go_wp2_with fail
  have hba:Blk (w.alloc (.cells #[.int .i64 S, .bool true, .int .i64 K, .int .i64 da, .int .i64 pa, .int .i64 ch] 23)) w.heap.size 23 #[.int .i64 S, .bool true, .int .i64 K, .int .i64 da, .int .i64 pa, .int .i64 ch]:=Blk.made _ _ _
  have hbw:Below w.heap.size w (w.alloc (.cells #[.int .i64 S, .bool true, .int .i64 K, .int .i64 da, .int .i64 pa, .int .i64 ch] 23)):=aZ (Below.refl _ _)
  have hzw2:w.heap.size<(w.alloc (.cells #[.int .i64 S, .bool true, .int .i64 K, .int .i64 da, .int .i64 pa, .int .i64 ch] 23)).heap.size:=by simp
  generalize w.alloc (.cells #[.int .i64 S, .bool true, .int .i64 K, .int .i64 da, .int .i64 pa, .int .i64 ch] 23)=wa at *
  have HBW:=hid hbw
  have HS:Hid (∀wx,Below wa.heap.size wa wx->wx.cell? ⟨w.heap.size,0,none⟩=some (.int .i64 S)/\wx.cell? ⟨w.heap.size,2,none⟩=some (.int .i64 K)):=fun wx h=>⟨(hba.step h).cell 0,(hba.step h).cell 2⟩
  have HT:Hid (∀wx,Below w.heap.size w wx->TabAt wx):=fun wx h=>ht.step h
  clear hba hbw ht
  refine(D4.out _).mono ?_
  rintro e w4 ⟨vM,rfl,hoM,hb4⟩
  obtain⟨AM,cM,rfl⟩:=bZ hoM
  have B4:Hid (Below w.heap.size w w4):=cZ hb4 HBW.out
  have PM:Hid (Part.Ok (⟨AM,cM,ldZ 2⟩:Part) w4):=lZ hoM rfl
  have HS4:Hid (∀wx,Below w4.heap.size w4 wx->wx.cell? ⟨w.heap.size,0,none⟩=some (.int .i64 S)/\wx.cell? ⟨w.heap.size,2,none⟩=some (.int .i64 K)):=fun wx h=>HS.out wx (cZ h hb4)
  have hs5:∀a1 a2 a3 a4 a5 a6 a7 a8,acZ [(⟨a1,a2,ldZ 2⟩:Part),⟨a3,a4,X1⟩,⟨a5,a6,[1]⟩,⟨a7,a8,X2⟩]<=1000000:=fun _ _ _ _ _ _ _ _=>by simp[acZ,ldZ];omega
  have HZ4:=hid B4.out.size
  clear hoM hb4 D4 HS HBW hzw2
  go_upto_region 5 with fail
  go_region_held3 (fun wx=>wx.cell? ⟨w.heap.size,0,none⟩=some (.int .i64 S)/\wx.cell? ⟨w.heap.size,2,none⟩=some (.int .i64 K)) (first|exact HS4.out _ ((Below.refl _ _).drew)|(refine HS4.out _ ?_;(repeat(first|(with_reducible first|exact Below.refl _ _|assumption|refine Below.drew ?_|refine below_drewN ?_ _|refine aZ ?_|refine cZ (by assumption) ?_)|((with_reducible first|refine jZ ?_ ?_|refine eZ ?_ ?_|refine gZ (by assumption) ?_ ?_);(focus(first|(simp;done)|(simp;omega)|omega|(simp at *;omega)))))))) (first|(go_at_call 93;first|((with_reducible refine(D5.out _).mono ?_);rintro e wA ⟨vA,rfl,hoA,hbA⟩;obtain⟨AA,cA,rfl⟩:=bZ hoA;have PA:Part.Ok (⟨AA,cA,X1⟩:Part) wA:=lZ hoA rfl)|((with_reducible refine(D6.out _).mono ?_);rintro e wB ⟨vB,rfl,hoB,hbB⟩;obtain⟨AB,cB,rfl⟩:=bZ hoB;have PB:Part.Ok (⟨AB,cB,X2⟩:Part) wB:=lZ hoB rfl))|(go_at_call 38;(refine(mdZ _ _ 4 [(⟨AM,cM,ldZ 2⟩:Part),(⟨AA,cA,X1⟩:Part),(⟨_,1,[1]⟩:Part),(⟨AB,cB,X2⟩:Part)] rfl (by omega) (hs5 _ _ _ _ _ _ _ _) (fun p hp=>by{rcases List.mem_cons.1 hp with rfl|hp;exact PM.out.step (by(repeat(first|(with_reducible first|exact Below.refl _ _|assumption|refine Below.drew ?_|refine below_drewN ?_ _|refine aZ ?_|refine cZ (by assumption) ?_)|((with_reducible first|refine jZ ?_ ?_|refine eZ ?_ ?_|refine gZ (by assumption) ?_ ?_);(focus(first|(simp;done)|(simp;omega)|omega|(simp at *;omega)))))));rcases List.mem_cons.1 hp with rfl|hp;exact PA.step (by(repeat(first|(with_reducible first|exact Below.refl _ _|assumption|refine Below.drew ?_|refine below_drewN ?_ _|refine aZ ?_|refine cZ (by assumption) ?_)|((with_reducible first|refine jZ ?_ ?_|refine eZ ?_ ?_|refine gZ (by assumption) ?_ ?_);(focus(first|(simp;done)|(simp;omega)|omega|(simp at *;omega)))))));rcases List.mem_cons.1 hp with rfl|hp;exact Part.Ok.step (xoZb _) (by(repeat(first|(with_reducible first|exact Below.refl _ _|assumption|refine Below.drew ?_|refine below_drewN ?_ _|refine aZ ?_|refine cZ (by assumption) ?_)|((with_reducible first|refine jZ ?_ ?_|refine eZ ?_ ?_|refine gZ (by assumption) ?_ ?_);(focus(first|(simp;done)|(simp;omega)|omega|(simp at *;omega)))))));rcases List.mem_cons.1 hp with rfl|hp;exact PB.step (by(repeat(first|(with_reducible first|exact Below.refl _ _|assumption|refine Below.drew ?_|refine below_drewN ?_ _|refine aZ ?_|refine cZ (by assumption) ?_)|((with_reducible first|refine jZ ?_ ?_|refine eZ ?_ ?_|refine gZ (by assumption) ?_ ?_);(focus(first|(simp;done)|(simp;omega)|omega|(simp at *;omega)))))));cases hp}) (by first|exact Blk.made _ _ _|exact Blk.made_at _ _ _ (by simp)|exact Blk.drew (Blk.made _ _ _)|exact Blk.drew (Blk.made_at _ _ _ (by simp)))).mono ?_);rintro e w7 ⟨v7,rfl,ho7,hb7⟩;have B7:Below w4.heap.size w4 w7:=cZ hb7 (by(repeat(first|(with_reducible first|exact Below.refl _ _|assumption|refine Below.drew ?_|refine below_drewN ?_ _|refine aZ ?_|refine cZ (by assumption) ?_)|((with_reducible first|refine jZ ?_ ?_|refine eZ ?_ ?_|refine gZ (by assumption) ?_ ?_);(focus(first|(simp;done)|(simp;omega)|omega|(simp at *;omega)))))));have h7:=nZ ho7 (show w4.heap.size<=_ from Below.size (by(repeat(first|(with_reducible first|exact Below.refl _ _|assumption|refine Below.drew ?_|refine below_drewN ?_ _|refine aZ ?_|refine cZ (by assumption) ?_)|((with_reducible first|refine jZ ?_ ?_|refine eZ ?_ ?_|refine gZ (by assumption) ?_ ?_);(focus(first|(simp;done)|(simp;omega)|omega|(simp at *;omega))))))));rw[show [(⟨AM,cM,ldZ 2⟩:Part),(⟨AA,cA,X1⟩:Part),(⟨_,1,[1]⟩:Part),(⟨AB,cB,X2⟩:Part)].flatMap Part.ls=H0 from HH0.out.1.symm,HH0.out.2]at h7;obtain⟨A7,c7,rfl⟩:=bZ h7;have P7:Part.Ok (⟨A7,c7,H0⟩:Part) w7:=lZ h7 HH0.out.2)|(go_at_call 86;(refine(put_any w7 A7 h0 c7 H0 HH0.out.2 (by omega) (by have h:=P7.nil;rw[HH0.out.2]at h;exact h) H8.out (HT.out _ (cZ B7 B4.out)) (by have h:=P7.row;simp only[HH0.out.2]at h;exact h)).mono ?_);unfold nfZ;rintro e w8 ⟨v8,rfl,ho8,hb8⟩;have HO8:=hid (nZ ho8 B7.size);have HB8:=hid (cZ hb8 B7)))
  all_goals
   clear hbA hoA hbB hoB hb7 ho7 h7 P7 PA PB ho8 hb8 B7
   go_wp2_with fail
   go_ret
   refine⟨_,rfl,?_,cZ HB8.out B4.out⟩
   have h:=nZ HO8.out HZ4.out
   rw[HHC.out]
   have e2:(H0++zeZ (mfZ H0)).length=H0.length+4:=by rw[List.length_append];rfl
   rw[e2]
   exact h
 |false=>
  have HH0:Hid (H0=ldZ 2++(X1++([0]++(X2++ [])))/\H0.length=h0):=HH
  clear HH
  go_enter Tryz.func39,Tryz.ntmps39
  go_wp2_with fail
  have hba:Blk (w.alloc (.cells #[.int .i64 S, .bool false, .int .i64 K, .int .i64 da, .int .i64 pa, .int .i64 ch] 23)) w.heap.size 23 #[.int .i64 S, .bool false, .int .i64 K, .int .i64 da, .int .i64 pa, .int .i64 ch]:=Blk.made _ _ _
  have hbw:Below w.heap.size w (w.alloc (.cells #[.int .i64 S, .bool false, .int .i64 K, .int .i64 da, .int .i64 pa, .int .i64 ch] 23)):=aZ (Below.refl _ _)
  have hzw2:w.heap.size<(w.alloc (.cells #[.int .i64 S, .bool false, .int .i64 K, .int .i64 da, .int .i64 pa, .int .i64 ch] 23)).heap.size:=by simp
  generalize w.alloc (.cells #[.int .i64 S, .bool false, .int .i64 K, .int .i64 da, .int .i64 pa, .int .i64 ch] 23)=wa at *
  have HBW:=hid hbw
  have HS:Hid (∀wx,Below wa.heap.size wa wx->wx.cell? ⟨w.heap.size,0,none⟩=some (.int .i64 S)/\wx.cell? ⟨w.heap.size,2,none⟩=some (.int .i64 K)):=fun wx h=>⟨(hba.step h).cell 0,(hba.step h).cell 2⟩
  have HT:Hid (∀wx,Below w.heap.size w wx->TabAt wx):=fun wx h=>ht.step h
  clear hba hbw ht
  refine(D4.out _).mono ?_
  rintro e w4 ⟨vM,rfl,hoM,hb4⟩
  obtain⟨AM,cM,rfl⟩:=bZ hoM
  have B4:Hid (Below w.heap.size w w4):=cZ hb4 HBW.out
  have PM:Hid (Part.Ok (⟨AM,cM,ldZ 2⟩:Part) w4):=lZ hoM rfl
  have HS4:Hid (∀wx,Below w4.heap.size w4 wx->wx.cell? ⟨w.heap.size,0,none⟩=some (.int .i64 S)/\wx.cell? ⟨w.heap.size,2,none⟩=some (.int .i64 K)):=fun wx h=>HS.out wx (cZ h hb4)
  have hs5:∀a1 a2 a3 a4 a5 a6 a7 a8,acZ [(⟨a1,a2,ldZ 2⟩:Part),⟨a3,a4,X1⟩,⟨a5,a6,[0]⟩,⟨a7,a8,X2⟩]<=1000000:=fun _ _ _ _ _ _ _ _=>by simp[acZ,ldZ];omega
  have HZ4:=hid B4.out.size
  clear hoM hb4 D4 HS HBW hzw2
  go_upto_region 5 with fail
  go_region_held3 (fun wx=>wx.cell? ⟨w.heap.size,0,none⟩=some (.int .i64 S)/\wx.cell? ⟨w.heap.size,2,none⟩=some (.int .i64 K)) (first|exact HS4.out _ ((Below.refl _ _).drew)|(refine HS4.out _ ?_;(repeat(first|(with_reducible first|exact Below.refl _ _|assumption|refine Below.drew ?_|refine below_drewN ?_ _|refine aZ ?_|refine cZ (by assumption) ?_)|((with_reducible first|refine jZ ?_ ?_|refine eZ ?_ ?_|refine gZ (by assumption) ?_ ?_);(focus(first|(simp;done)|(simp;omega)|omega|(simp at *;omega)))))))) (first|(go_at_call 93;first|((with_reducible refine(D5.out _).mono ?_);rintro e wA ⟨vA,rfl,hoA,hbA⟩;obtain⟨AA,cA,rfl⟩:=bZ hoA;have PA:Part.Ok (⟨AA,cA,X1⟩:Part) wA:=lZ hoA rfl)|((with_reducible refine(D6.out _).mono ?_);rintro e wB ⟨vB,rfl,hoB,hbB⟩;obtain⟨AB,cB,rfl⟩:=bZ hoB;have PB:Part.Ok (⟨AB,cB,X2⟩:Part) wB:=lZ hoB rfl))|(go_at_call 38;(refine(mdZ _ _ 4 [(⟨AM,cM,ldZ 2⟩:Part),(⟨AA,cA,X1⟩:Part),(⟨_,1,[0]⟩:Part),(⟨AB,cB,X2⟩:Part)] rfl (by omega) (hs5 _ _ _ _ _ _ _ _) (fun p hp=>by{rcases List.mem_cons.1 hp with rfl|hp;exact PM.out.step (by(repeat(first|(with_reducible first|exact Below.refl _ _|assumption|refine Below.drew ?_|refine below_drewN ?_ _|refine aZ ?_|refine cZ (by assumption) ?_)|((with_reducible first|refine jZ ?_ ?_|refine eZ ?_ ?_|refine gZ (by assumption) ?_ ?_);(focus(first|(simp;done)|(simp;omega)|omega|(simp at *;omega)))))));rcases List.mem_cons.1 hp with rfl|hp;exact PA.step (by(repeat(first|(with_reducible first|exact Below.refl _ _|assumption|refine Below.drew ?_|refine below_drewN ?_ _|refine aZ ?_|refine cZ (by assumption) ?_)|((with_reducible first|refine jZ ?_ ?_|refine eZ ?_ ?_|refine gZ (by assumption) ?_ ?_);(focus(first|(simp;done)|(simp;omega)|omega|(simp at *;omega)))))));rcases List.mem_cons.1 hp with rfl|hp;exact Part.Ok.step (ulZb _) (by(repeat(first|(with_reducible first|exact Below.refl _ _|assumption|refine Below.drew ?_|refine below_drewN ?_ _|refine aZ ?_|refine cZ (by assumption) ?_)|((with_reducible first|refine jZ ?_ ?_|refine eZ ?_ ?_|refine gZ (by assumption) ?_ ?_);(focus(first|(simp;done)|(simp;omega)|omega|(simp at *;omega)))))));rcases List.mem_cons.1 hp with rfl|hp;exact PB.step (by(repeat(first|(with_reducible first|exact Below.refl _ _|assumption|refine Below.drew ?_|refine below_drewN ?_ _|refine aZ ?_|refine cZ (by assumption) ?_)|((with_reducible first|refine jZ ?_ ?_|refine eZ ?_ ?_|refine gZ (by assumption) ?_ ?_);(focus(first|(simp;done)|(simp;omega)|omega|(simp at *;omega)))))));cases hp}) (by first|exact Blk.made _ _ _|exact Blk.made_at _ _ _ (by simp)|exact Blk.drew (Blk.made _ _ _)|exact Blk.drew (Blk.made_at _ _ _ (by simp)))).mono ?_);rintro e w7 ⟨v7,rfl,ho7,hb7⟩;have B7:Below w4.heap.size w4 w7:=cZ hb7 (by(repeat(first|(with_reducible first|exact Below.refl _ _|assumption|refine Below.drew ?_|refine below_drewN ?_ _|refine aZ ?_|refine cZ (by assumption) ?_)|((with_reducible first|refine jZ ?_ ?_|refine eZ ?_ ?_|refine gZ (by assumption) ?_ ?_);(focus(first|(simp;done)|(simp;omega)|omega|(simp at *;omega)))))));have h7:=nZ ho7 (show w4.heap.size<=_ from Below.size (by(repeat(first|(with_reducible first|exact Below.refl _ _|assumption|refine Below.drew ?_|refine below_drewN ?_ _|refine aZ ?_|refine cZ (by assumption) ?_)|((with_reducible first|refine jZ ?_ ?_|refine eZ ?_ ?_|refine gZ (by assumption) ?_ ?_);(focus(first|(simp;done)|(simp;omega)|omega|(simp at *;omega))))))));rw[show [(⟨AM,cM,ldZ 2⟩:Part),(⟨AA,cA,X1⟩:Part),(⟨_,1,[0]⟩:Part),(⟨AB,cB,X2⟩:Part)].flatMap Part.ls=H0 from HH0.out.1.symm,HH0.out.2]at h7;obtain⟨A7,c7,rfl⟩:=bZ h7;have P7:Part.Ok (⟨A7,c7,H0⟩:Part) w7:=lZ h7 HH0.out.2)|(go_at_call 86;(refine(put_any w7 A7 h0 c7 H0 HH0.out.2 (by omega) (by have h:=P7.nil;rw[HH0.out.2]at h;exact h) H8.out (HT.out _ (cZ B7 B4.out)) (by have h:=P7.row;simp only[HH0.out.2]at h;exact h)).mono ?_);unfold nfZ;rintro e w8 ⟨v8,rfl,ho8,hb8⟩;have HO8:=hid (nZ ho8 B7.size);have HB8:=hid (cZ hb8 B7)))
  all_goals
   clear hbA hoA hbB hoB hb7 ho7 h7 P7 PA PB ho8 hb8 B7
   go_wp2_with fail
   go_ret
   refine⟨_,rfl,?_,cZ HB8.out B4.out⟩
   have h:=nZ HO8.out HZ4.out
   rw[HHC.out]
   have e2:(H0++zeZ (mfZ H0)).length=H0.length+4:=by rw[List.length_append];rfl
   rw[e2]
   exact h
end Go.Proofs.YtmlaajebadfkoaaGreatDoor.Two
namespace Go.Proofs.YtmlaajebadfkoaaGreatDoor.Two
open Go.RowKit Mem Go.Proofs.YtmlaajebadfkoaaGreatDoor.Own Canon NumPut Crc
open Recs Opts Go.Proofs.YtmlaajebadfkoaaGreatDoor.One Go.Proofs.YtmlaajebadfkoaaGreatDoor.Body Idx
open Go.Proofs.YtmlaajebadfkoaaGreatDoor.Block (lZ ueZ)
theorem le_sum{L:List Nat}{x:Nat}(h:x∈L):x<=L.sum:=by
 induction L with
 |nil=>cases h
 |cons y t ih=>
  rw[List.sum_cons]
  rcases List.mem_cons.1 h with rfl|h
  ·omega
  ·have:=ih h;omega
theorem qrZ{o:Opt}{l:List Rec}{n:Nat}(hn:l.length=n)(hN:n<=1000)(hok:∀r∈l,ccZ r)(hb:(vZ false l).length<=16000)(hix:(ixR o l).length<=99000):(kfZ o l).length<=300000:=by
 have h1:=nkZ false o.plain (pbZ o l) l hb
 have h2:=pkZ o l
 have h3:=wkZ hok (by omega)
 have h4:=okZ o l
 have h5:∀z∈(vbZ false o.plain (pbZ o l) l).map List.length,z<=1000000000:=fun z hz=>by
  have:=le_sum hz
  rw[<-List.length_flatten]at this
  omega
 have h6:=qcZb (n:=l.length) (G:=pbZ o l) (S:=(vbZ false o.plain (pbZ o l) l).map List.length) (x:=(gbZ (neZ l)).length) (y:=(gbZ (ixR o l)).length) (by omega) (by omega) (fun z hz=>by have:=le_sum hz;omega) h5 (by rw[edZ];omega) (by rw[edZ];omega)
 unfold kfZ peZ
 simp only[List.length_append,edZ]at h6 ⊢
 have h7:∀x,(wfZ x).length=4:=fun _=>rfl
 rw[h7]
 omega
def keZ(o:Opt)(l:List Rec):Int:=if sfZ o≠0 then sfZ o else mcZ o l
def egZ(o:Opt)(l:List Rec):List Nat:=if keZ o l=0 then qeZ o.block.toNat (oeZ o.plain) o.bucket.toNat++geZ o l else []
def bhZ(o:Opt)(l:List Rec)(w:World)(e:Ending)(w':World):Prop:=
 ∃v,e= .returned (.tuple #[v, .int .i64 (keZ o l)])/\w'.ownsRow w.heap.size 5 1 v (egZ o l).length (dZ .u8 (egZ o l))/\Below w.heap.size w w'
theorem cdZb(w:World)(o:Opt)(A:Option Addr)(n c:Nat)(l:List Rec)(hn:l.length=n)(hN:n<=9223372036854775807)(hc:n<=c)(hok:∀r∈l,ccZ r)(hcd:pdZ l=0->Cd o l n)(ht:TabAt w)(ha:Row w w.heap.size A n 4 (xbZ l)):
 Calls Tryz.prog 10 #[o.val, .slice A n c] w (bhZ o l w):=by
 by_cases ho:sfZ o=0
 ·have D1:=hid (fun wx=>qnZ wx o)
  rw[ho]at D1
  have D2:=hid (fun wx (hx:Below w.heap.size w wx)=>tlZb wx o A n c l hn hN hc hok hcd (ht.step hx) ((ha.below hx).mono hx.size))
  unfold dfZ at D2
  by_cases hm:mcZ o l=0
  ·have hE:keZ o l=0:=by unfold keZ;rw[if_neg (by simp[ho]),hm]
   have hR:egZ o l=qeZ o.block.toNat (oeZ o.plain) o.bucket.toNat++geZ o l:=if_pos hE
   have hk:pdZ l=0:=by
    by_cases hk:pdZ l=0
    ·exact hk
    ·exfalso
     have h6:=liZ hk
     unfold mcZ at hm
     by_cases hB:hfZ o=0
     ·rw[if_neg (by simp[hB]),if_pos hk]at hm;exact hk hm
     ·rw[if_pos hB]at hm;exact hB hm
   have hB:hfZ o=0:=by
    by_cases hB:hfZ o=0
    ·exact hB
    ·exfalso
     unfold mcZ at hm
     rw[if_pos hB]at hm
     exact hB hm
   obtain⟨c1,c2,c3,c4⟩:=hcd hk
   have hML:=qrZ hn c1 hok c2 (c4 hB)
   have hmr:geZ o l=kfZ o l:=if_pos hm
   rw[<-hmr]at hML
   obtain⟨b1,b2,b3,b4⟩:16<=o.block/\o.block<=32768/\1<=o.bucket/\o.bucket<=64:=by
    unfold sfZ at ho
    split at ho
    ·rename_i h;exact⟨h.1.1,h.1.2,h.2.1.1,h.2.1.2⟩
    ·cases ho
   rw[hm]at D2
   unfold bhZ
   rw[hE,hR]
   generalize geZ o l=R at *
   obtain⟨blk,pl,bu,da,pa,ch⟩:=o
   simp only at b1 b2 b3 b4
   obtain⟨S,rfl⟩:=Int.eq_ofNat_of_zero_le (show 0<=blk by omega)
   obtain⟨K,rfl⟩:=Int.eq_ofNat_of_zero_le (show 0<=bu by omega)
   have D3:=hid (fun wx (hx:Below w.heap.size w wx)=>yoZb wx S K pl da pa ch (by omega) (by omega) (ht.step hx))
   have hcl:=prZ (S:=S) (K:=K) (fl:=oeZ pl) (by omega) (by omega)
   unfold Opt.val at D1 D2 D3 ⊢
   simp only[Int.toNat_natCast]at D1 D2 D3 ⊢
   generalize qeZ S (oeZ pl) K=HC at *
   obtain⟨r0,hr0⟩:∃r0,r0=R.length:=⟨_,rfl⟩
   obtain⟨h0,hh0⟩:∃h0,h0=HC.length:=⟨_,rfl⟩
   rw[<-hr0]at D2 hML
   rw[<-hh0]at D3 hcl
   have HRL:Hid (R.length=r0):=hr0.symm
   have HCL:Hid (HC.length=h0):=hh0.symm
   clear hcd ht ha hok hn hE hR ho hm hk hB c1 c2 c3 c4 hmr b1 b3 hr0 hh0
   go_enter Tryz.func10,Tryz.ntmps10
   go_wp2_with fail
   have HBA:Hid (Blk (w.alloc (.cells #[.int .i64 S, .bool pl, .int .i64 K, .int .i64 da, .int .i64 pa, .int .i64 ch] 23)) w.heap.size 23 #[.int .i64 S, .bool pl, .int .i64 K, .int .i64 da, .int .i64 pa, .int .i64 ch]):=Blk.made _ _ _
   have HBW:Hid (Below w.heap.size w (w.alloc (.cells #[.int .i64 S, .bool pl, .int .i64 K, .int .i64 da, .int .i64 pa, .int .i64 ch] 23))):=aZ (Below.refl _ _)
   have hzw2:w.heap.size<(w.alloc (.cells #[.int .i64 S, .bool pl, .int .i64 K, .int .i64 da, .int .i64 pa, .int .i64 ch] 23)).heap.size:=by simp
   generalize w.alloc (.cells #[.int .i64 S, .bool pl, .int .i64 K, .int .i64 da, .int .i64 pa, .int .i64 ch] 23)=wa at *
   have HWA:Hid (∀wx,Below wa.heap.size wa wx->Below w.heap.size w wx):=fun wx h=>HBW.out.trans (h.mono HBW.out.size)
   refine(D1.out _).mono ?_
   rintro e w1 ⟨rfl,hb1⟩
   have B1:Hid (Below wa.heap.size wa w1):=hb1
   have E2:=hid (D2.out w1 (HWA.out _ hb1))
   have q:=hid (HBA.out.step B1.out)
   have k0:=q.out.cell 0
   have k1:=q.out.cell 1
   have k2:=q.out.cell 2
   have k3:=q.out.cell 3
   have k4:=q.out.cell 4
   have k5:=q.out.cell 5
   simp only[List.getElem?_toArray,List.getElem?_cons_zero,List.getElem?_cons_succ]at k0 k1 k2 k3 k4 k5
   clear q
   clear hb1 D1 D2
   go_wp2_with fail
   refine E2.out.mono ?_
   rintro e w2 ⟨v2,rfl,ho2,hb2⟩
   obtain⟨A2,cc2,rfl⟩:=bZ ho2
   have B2:Hid (Below wa.heap.size wa w2):=cZ hb2 B1.out
   have P2:Hid (Part.Ok (⟨A2,cc2,R⟩:Part) w2):=lZ ho2 HRL.out
   have E3:=hid (D3.out w2 (HWA.out _ B2.out))
   clear ho2 hb2 E2 B1 k0 k1 k2 k3 k4 k5 D3
   have q:=hid (HBA.out.step B2.out)
   have k0:=q.out.cell 0
   have k1:=q.out.cell 1
   have k2:=q.out.cell 2
   have k3:=q.out.cell 3
   have k4:=q.out.cell 4
   have k5:=q.out.cell 5
   simp only[List.getElem?_toArray,List.getElem?_cons_zero,List.getElem?_cons_succ]at k0 k1 k2 k3 k4 k5
   clear q
   go_wp2_with fail
   refine E3.out.mono ?_
   rintro e w3 ⟨v3,rfl,ho3,hb3⟩
   obtain⟨A3,cc3,rfl⟩:=bZ ho3
   have B3:Hid (Below wa.heap.size wa w3):=cZ hb3 B2.out
   have P3:Hid (Part.Ok (⟨A3,cc3,HC⟩:Part) w3):=lZ ho3 HCL.out
   have P23:Hid (Part.Ok (⟨A2,cc2,R⟩:Part) w3):=P2.out.step hb3
   have hs:acZ [(⟨A3,cc3,HC⟩:Part),⟨A2,cc2,R⟩]<=1000000:=by
    have a:=HRL.out
    have b:=HCL.out
    simp[acZ]
    omega
   clear ho3 hb3 E3 k0 k1 k2 k3 k4 k5 P2 B2
   have HV:Hid (([(⟨A3,cc3,HC⟩:Part),⟨A2,cc2,R⟩].map Part.v).toArray=#[.slice A3 h0 cc3, .slice A2 r0 cc2]):=by
    show _=_
    simp[Part.v,HCL.out,HRL.out]
   have HZ:Hid (w.heap.size<=w3.heap.size):=(HWA.out _ B3.out).size
   go_wp2_with fail
   refine(mdZ _ _ 2 [(⟨A3,cc3,HC⟩:Part),(⟨A2,cc2,R⟩:Part)] rfl (by omega) hs (fun p hp=>by{rcases List.mem_cons.1 hp with rfl|hp;exact P3.out.step (by(repeat(first|(with_reducible first|exact Below.refl _ _|assumption|refine Below.drew ?_|refine below_drewN ?_ _|refine aZ ?_|refine cZ (by assumption) ?_)|((with_reducible first|refine jZ ?_ ?_|refine eZ ?_ ?_|refine gZ (by assumption) ?_ ?_);(focus(first|(simp;done)|(simp;omega)|omega|(simp at *;omega)))))));rcases List.mem_cons.1 hp with rfl|hp;exact P23.out.step (by(repeat(first|(with_reducible first|exact Below.refl _ _|assumption|refine Below.drew ?_|refine below_drewN ?_ _|refine aZ ?_|refine cZ (by assumption) ?_)|((with_reducible first|refine jZ ?_ ?_|refine eZ ?_ ?_|refine gZ (by assumption) ?_ ?_);(focus(first|(simp;done)|(simp;omega)|omega|(simp at *;omega)))))));cases hp}) (by rw[HV.out];exact Blk.made _ _ _)).mono ?_
   rintro e w4 ⟨v4,rfl,ho4,hb4⟩
   have B4:Hid (Below w3.heap.size w3 w4):=cZ hb4 (aZ (Below.refl _ _))
   have h:=nZ ho4 (Nat.le_trans HZ.out (aZ (Below.refl _ _)).size)
   simp only[List.flatMap_cons,List.flatMap_nil,List.append_nil]at h
   have HO:=hid h
   clear h ho4 hb4 hs
   go_wp2_with fail
   go_ret2
   exact⟨_,rfl,HO.out,HWA.out _ (cZ B4.out B3.out)⟩
  ·have hE:keZ o l=mcZ o l:=by unfold keZ;rw[if_neg (by simp[ho])]
   have hR:egZ o l= []:=if_neg (by rw[hE];exact hm)
   have hm6:mcZ o l=6∨mcZ o l=9:=by
    unfold mcZ at hm ⊢
    split
    ·rename_i h;exact .inr (inZ h)
    ·rename_i h
     rw[if_neg h]at hm
     split
     ·rename_i h;exact .inl (liZ h)
     ·rename_i h;rw[if_neg h]at hm;exact absurd rfl hm
   unfold bhZ
   rw[hE,hR]
   generalize geZ o l=R at *
   generalize mcZ o l=E at *
   obtain⟨S,pl,bu,da,pa,ch⟩:=o
   unfold Opt.val at D1 D2 ⊢
   simp only at D1 D2 ⊢
   clear hcd ht ha hok hn hE hR ho hm
   rcases hm6 with rfl|rfl
   all_goals
    go_enter Tryz.func10,Tryz.ntmps10
    go_wp2_with fail
    have HBA:Hid (Blk (w.alloc (.cells #[.int .i64 S, .bool pl, .int .i64 bu, .int .i64 da, .int .i64 pa, .int .i64 ch] 23)) w.heap.size 23 #[.int .i64 S, .bool pl, .int .i64 bu, .int .i64 da, .int .i64 pa, .int .i64 ch]):=Blk.made _ _ _
    have HBW:Hid (Below w.heap.size w (w.alloc (.cells #[.int .i64 S, .bool pl, .int .i64 bu, .int .i64 da, .int .i64 pa, .int .i64 ch] 23))):=aZ (Below.refl _ _)
    have hzw2:w.heap.size<(w.alloc (.cells #[.int .i64 S, .bool pl, .int .i64 bu, .int .i64 da, .int .i64 pa, .int .i64 ch] 23)).heap.size:=by simp
    generalize w.alloc (.cells #[.int .i64 S, .bool pl, .int .i64 bu, .int .i64 da, .int .i64 pa, .int .i64 ch] 23)=wa at *
    have HWA:Hid (∀wx,Below wa.heap.size wa wx->Below w.heap.size w wx):=fun wx h=>HBW.out.trans (h.mono HBW.out.size)
    refine(D1.out _).mono ?_
    rintro e w1 ⟨rfl,hb1⟩
    have B1:Hid (Below wa.heap.size wa w1):=hb1
    have E2:=hid (D2.out w1 (HWA.out _ hb1))
    have q:=hid (HBA.out.step B1.out)
    have k0:=q.out.cell 0
    have k1:=q.out.cell 1
    have k2:=q.out.cell 2
    have k3:=q.out.cell 3
    have k4:=q.out.cell 4
    have k5:=q.out.cell 5
    simp only[List.getElem?_toArray,List.getElem?_cons_zero,List.getElem?_cons_succ]at k0 k1 k2 k3 k4 k5
    clear q
    clear hb1 D1 D2
    go_wp2_with fail
    refine E2.out.mono ?_
    rintro e w2 ⟨v2,rfl,ho2,hb2⟩
    have B2:Hid (Below wa.heap.size wa w2):=cZ hb2 B1.out
    clear ho2 hb2 E2 B1 k0 k1 k2 k3 k4 k5
    go_wp2_with fail
    go_ret2
    exact⟨_,rfl,World.ownsRow_nil _ _ _ _,HWA.out _ B2.out⟩
 ·have h9:=wpZ ho
  have hE:keZ o l=9:=by unfold keZ;rw[if_pos ho,h9]
  have hR:egZ o l= []:=if_neg (by rw[hE];simp)
  have D1:=hid (fun wx=>qnZ wx o)
  rw[h9]at D1
  unfold bhZ
  rw[hE,hR]
  unfold Opt.val at D1 ⊢
  clear hcd ht ha hok hn hE hR ho h9
  go_enter Tryz.func10,Tryz.ntmps10
  go_wp2_with fail
  refine(D1.out _).mono ?_
  rintro e w1 ⟨rfl,hb1⟩
  have B1:Hid (Below w.heap.size w w1):=cZ hb1 (aZ (Below.refl _ _))
  clear hb1 D1
  go_wp2_with fail
  go_ret2
  exact⟨_,rfl,World.ownsRow_nil _ _ _ _,B1.out⟩
end Go.Proofs.YtmlaajebadfkoaaGreatDoor.Two
namespace Go.Proofs.YtmlaajebadfkoaaGreatDoor.Two
open Go.RowKit Mem Go.Proofs.YtmlaajebadfkoaaGreatDoor.Own Canon NumPut Crc
open Recs Opts Go.Proofs.YtmlaajebadfkoaaGreatDoor.One Go.Proofs.YtmlaajebadfkoaaGreatDoor.Body Idx
open Go.Proofs.YtmlaajebadfkoaaGreatDoor.Block (lZ ueZ)
theorem mzZ(w:World)(S fl K:Nat)(hS:S<=32768)(hK:K<=64)(hf1:fl<=1):
 Calls Tryz.prog 33 #[.int .i64 S, .int .u8 fl, .int .i64 K] w fun e w'=>∃v,e= .returned v/\w'.ownsRow w.heap.size 5 1 v (qeZ S fl K).length (dZ .u8 (qeZ S fl K))/\Below w.heap.size w w':=by
 obtain⟨j0,hj0,hy0,hy1,hy2⟩:=info_parts hbZ
 have D1:=hid (fun wx=>lcZ wx S (by omega))
 have D2:=hid (fun wx=>lcZ wx K (by omega))
 have l1:=mZ (x:=S) (by omega)
 have l2:=mZ (x:=K) (by omega)
 have u1:IntKind.u64.wrap (S:Int)=(S:Int):=by rw[IntKind.wrap_u64];omega
 have u2:IntKind.u64.wrap (K:Int)=(K:Int):=by rw[IntKind.wrap_u64];omega
 have hl:=orZ (S:=S) (K:=K) (fl:=fl) hS hK
 have H8a:=quZ (S:=S) (fl:=fl) (K:=K) hf1
 unfold qeZ
 obtain⟨H0,hH0⟩:∃H0,H0=wjZ S fl K:=⟨_,rfl⟩
 rw[<-hH0]at hl H8a ⊢
 unfold wjZ at hH0
 generalize iZ S=X1 at *
 generalize iZ K=X2 at *
 obtain⟨h0,hh0⟩:∃h0,h0=H0.length:=⟨_,rfl⟩
 rw[<-hh0]at hl
 have HH0:Hid (H0=ldZ 2++(X1++([fl]++(X2++ [])))/\H0.length=h0):=⟨hH0,hh0.symm⟩
 have H8:=hid H8a
 obtain⟨x1,hx1⟩:∃x1,x1=X1.length:=⟨_,rfl⟩
 obtain⟨x2,hx2⟩:∃x2,x2=X2.length:=⟨_,rfl⟩
 rw[<-hx1]at D1 l1
 rw[<-hx2]at D2 l2
 have HX1:=hid hx1
 have HX2:=hid hx2
 clear hS hK H8a hH0 hh0 hx1 hx2
 go_enter Tryz.func33,Tryz.ntmps33
 go_wp2_with fail
 have hom:(w.alloc (.cells #[.int .u8 70, .int .u8 73, .int .u8 82, .int .u8 75, .int .u8 2] 5)).ownsRow w.heap.size 5 1 (.slice (some ⟨w.heap.size,0,none⟩) 5 5) 5 (dZ .u8 (ldZ 2)):=mqZb (Nat.le_refl _) rfl (by unfold maxLen;omega)
 have hbw:Below w.heap.size w (w.alloc (.cells #[.int .u8 70, .int .u8 73, .int .u8 82, .int .u8 75, .int .u8 2] 5)):=aZ (Below.refl _ _)
 generalize w.alloc (.cells #[.int .u8 70, .int .u8 73, .int .u8 82, .int .u8 75, .int .u8 2] 5)=wa at *
 refine(D1.out _).mono ?_
 rintro e w1 ⟨v1,rfl,ho1,hb1⟩
 obtain⟨A1,c1,rfl⟩:=bZ ho1
 have HS1:Hid (Src w1 A1 x1 c1 1 (dZ .u8 X1)):=tZ ho1
 have HB1:Hid (Below w.heap.size w w1):=cZ hb1 hbw
 have HO1:Hid (w1.ownsRow w.heap.size 5 1 (.slice (some ⟨w.heap.size,0,none⟩) 5 5) 5 (dZ .u8 (ldZ 2))):=fZ hom (fun y hy=>hb1.block y (World.ownsRow.lt hom y hy).2)
 have hz1:=HB1.out.size
 clear ho1 hb1 hom hbw D1
 go_wp2_with(first|(at_builtin;refine hZ rfl (.tmp 9) (.tmp 12) 29 rfl w.heap.size 5 j0 _ 1 1 Tryz.underlying29 hj0 hy0 hy1 hy2 rfl (by decide) _ _ _ (by rfl) HO1.out _ _ _ _ (by rfl) HS1.out (qZ _ _) (by unfold maxLen;omega) (by omega) hz1 ?_;intro v2 w2 hown2 hg2 hat2;have HB2:Hid (Below w.heap.size w w2):=HB1.out.grown hg2 hz1 (fun y hy=>(World.ownsRow.lt HO1.out y hy).1);have HO2:Hid (w2.ownsRow w.heap.size 5 1 v2 (5+x1) (dZ .u8 (ldZ 2)++dZ .u8 X1)):=hown2;have hz2:=HB2.out.size;clear hown2 hg2 hat2 HO1 HS1 HB1 hz1)|(at_builtin;refine hZ rfl (.tmp 14) (.tmp 16) 29 rfl w.heap.size 5 j0 _ 1 1 Tryz.underlying29 hj0 hy0 hy1 hy2 rfl (by decide) _ _ _ (by rfl) (HO2.out.alloc _) _ 1 1 [.int .u8 (fl:Nat)] (by rfl) (Src.of_blk (g:=w2.heap.size) (Blk.made _ _ _) 1 1 1 rfl) (by intro u hu;simp at hu;rcases hu with rfl;rfl) (by unfold maxLen;omega) (by omega) (by simp;omega) ?_;intro v3 w3 hown3 hg3 hat3;have HB3:Hid (Below w.heap.size w w3):=(HB2.out.alloc hz2 _).grown hg3 (by simp;omega) (fun y hy=>(World.ownsRow.lt HO2.out y hy).1);have HO3:Hid (w3.ownsRow w.heap.size 5 1 v3 (5+x1+1) (dZ .u8 (ldZ 2)++dZ .u8 X1++ [.int .u8 (fl:Nat)])):=hown3;clear hown3 hg3 hat3 HO2 HB2 hz2))
 refine(D2.out _).mono ?_
 rintro e w4 ⟨v4,rfl,ho4,hb4⟩
 obtain⟨A4,c4,rfl⟩:=bZ ho4
 have HS4:Hid (Src w4 A4 x2 c4 1 (dZ .u8 X2)):=tZ ho4
 have HB4:Hid (Below w.heap.size w w4):=cZ hb4 HB3.out
 have HO4:Hid (w4.ownsRow w.heap.size 5 1 v3 (5+x1+1) (dZ .u8 (ldZ 2)++dZ .u8 X1++ [.int .u8 (fl:Nat)])):=fZ HO3.out (fun y hy=>hb4.block y (World.ownsRow.lt HO3.out y hy).2)
 have hz4:=HB4.out.size
 clear ho4 hb4 HO3 HB3 D2
 go_wp2_with(at_builtin;refine hZ rfl (.tmp 18) (.tmp 21) 29 rfl w.heap.size 5 j0 _ 1 1 Tryz.underlying29 hj0 hy0 hy1 hy2 rfl (by decide) _ _ _ (by rfl) HO4.out _ _ _ _ (by rfl) HS4.out (qZ _ _) (by unfold maxLen;omega) (by omega) hz4 ?_;intro v5 w5 hown5 hg5 hat5;have HB5:Hid (Below w.heap.size w w5):=HB4.out.grown hg5 hz4 (fun y hy=>(World.ownsRow.lt HO4.out y hy).1);have HO5:Hid (w5.ownsRow w.heap.size 5 1 v5 (5+x1+1+x2) (dZ .u8 (ldZ 2)++dZ .u8 X1++ [.int .u8 (fl:Nat)]++dZ .u8 X2)):=hown5;clear hown5 hg5 hat5 HO4 HS4 HB4 hz4)
 have hH5:Hid (w5.ownsRow w.heap.size 5 1 v5 h0 (dZ .u8 H0)):=by
  show w5.ownsRow w.heap.size 5 1 v5 h0 (dZ .u8 H0)
  have h:=HO5.out
  have e1:dZ .u8 (ldZ 2)++dZ .u8 X1++ [.int .u8 (fl:Nat)]++dZ .u8 X2=dZ .u8 H0:=by
   rw[HH0.out.1]
   simp[dZ]
  have e2:5+x1+1+x2=h0:=by
   rw[<-HH0.out.2,HH0.out.1,HX1.out,HX2.out]
   simp[ldZ]
   omega
  rw[e1,e2]at h
  exact h
 clear HO5
 obtain⟨A5,c5,rfl⟩:=bZ hH5.out
 have P5:Hid (Part.Ok (⟨A5,c5,H0⟩:Part) w5):=lZ hH5.out HH0.out.2
 refine(rput_any w5 A5 h0 c5 H0 HH0.out.2 (by omega) (by have h:=P5.out.nil;rw[HH0.out.2]at h;exact h) H8.out (by have h:=P5.out.row;simp only[HH0.out.2]at h;exact h)).mono ?_
 unfold nfZ
 rintro e w8 ⟨v8,rfl,ho8,hb8⟩
 have HO8:=hid (nZ ho8 HB5.out.size)
 have HB8:=hid (cZ hb8 HB5.out)
 clear ho8 hb8
 go_wp2_with fail
 go_ret
 refine⟨_,rfl,?_,HB8.out⟩
 have e2:(H0++zeZ (mfZ H0)).length=H0.length+4:=by rw[List.length_append];rfl
 rw[e2,HH0.out.2]
 have h:=HO8.out
 first|exact h|(rw[HH0.out.2]at h;exact h)
theorem wlZb(w:World)(o:Opt)(A:Option Addr)(n c:Nat)(l:List Rec)(hn:l.length=n)(hN:n<=9223372036854775807)(hc:n<=c)(hok:∀r∈l,ccZ r)(hcd:pdZ l=0->Cd o l n)(ht:TabAt w)(ha:Row w w.heap.size A n 4 (xbZ l)):
 Calls Tryz.prog 11 #[o.val, .slice A n c] w (bhZ o l w):=by
 by_cases ho:sfZ o=0
 ·have D1:=hid (fun wx=>kmZ wx o)
  rw[ho]at D1
  have D2:=hid (fun wx (hx:Below w.heap.size w wx)=>uiZb wx o A n c l hn hN hc hok hcd (ht.step hx) ((ha.below hx).mono hx.size))
  unfold dfZ at D2
  by_cases hm:mcZ o l=0
  ·have hE:keZ o l=0:=by unfold keZ;rw[if_neg (by simp[ho]),hm]
   have hR:egZ o l=qeZ o.block.toNat (oeZ o.plain) o.bucket.toNat++geZ o l:=if_pos hE
   have hk:pdZ l=0:=by
    by_cases hk:pdZ l=0
    ·exact hk
    ·exfalso
     have h6:=liZ hk
     unfold mcZ at hm
     by_cases hB:hfZ o=0
     ·rw[if_neg (by simp[hB]),if_pos hk]at hm;exact hk hm
     ·rw[if_pos hB]at hm;exact hB hm
   have hB:hfZ o=0:=by
    by_cases hB:hfZ o=0
    ·exact hB
    ·exfalso
     unfold mcZ at hm
     rw[if_pos hB]at hm
     exact hB hm
   obtain⟨c1,c2,c3,c4⟩:=hcd hk
   have hML:=qrZ hn c1 hok c2 (c4 hB)
   have hmr:geZ o l=kfZ o l:=if_pos hm
   rw[<-hmr]at hML
   obtain⟨b1,b2,b3,b4⟩:16<=o.block/\o.block<=32768/\1<=o.bucket/\o.bucket<=64:=by
    unfold sfZ at ho
    split at ho
    ·rename_i h;exact⟨h.1.1,h.1.2,h.2.1.1,h.2.1.2⟩
    ·cases ho
   rw[hm]at D2
   unfold bhZ
   rw[hE,hR]
   generalize geZ o l=R at *
   obtain⟨blk,pl,bu,da,pa,ch⟩:=o
   simp only at b1 b2 b3 b4
   obtain⟨S,rfl⟩:=Int.eq_ofNat_of_zero_le (show 0<=blk by omega)
   obtain⟨K,rfl⟩:=Int.eq_ofNat_of_zero_le (show 0<=bu by omega)
   have D3:=hid (fun wx=>mzZ wx S (oeZ pl) K (by omega) (by omega) (by unfold oeZ;split<;>omega))
   have D4:=hid (fun wx=>plZb wx pl)
   have hcl:=prZ (S:=S) (K:=K) (fl:=oeZ pl) (by omega) (by omega)
   unfold Opt.val at D1 D2 D3 ⊢
   simp only[Int.toNat_natCast]at D1 D2 D3 ⊢
   generalize qeZ S (oeZ pl) K=HC at *
   generalize oeZ pl=fl at *
   obtain⟨r0,hr0⟩:∃r0,r0=R.length:=⟨_,rfl⟩
   obtain⟨h0,hh0⟩:∃h0,h0=HC.length:=⟨_,rfl⟩
   rw[<-hr0]at D2 hML
   rw[<-hh0]at D3 hcl
   have HRL:Hid (R.length=r0):=hr0.symm
   have HCL:Hid (HC.length=h0):=hh0.symm
   clear hcd ht ha hok hn hE hR ho hm hk hB c1 c2 c3 c4 hmr b1 b3 hr0 hh0
   go_enter Tryz.func11,Tryz.ntmps11
   go_wp2_with fail
   have HBA:Hid (Blk (w.alloc (.cells #[.int .i64 S, .bool pl, .int .i64 K, .int .i64 da, .int .i64 pa, .int .i64 ch] 23)) w.heap.size 23 #[.int .i64 S, .bool pl, .int .i64 K, .int .i64 da, .int .i64 pa, .int .i64 ch]):=Blk.made _ _ _
   have HBW:Hid (Below w.heap.size w (w.alloc (.cells #[.int .i64 S, .bool pl, .int .i64 K, .int .i64 da, .int .i64 pa, .int .i64 ch] 23))):=aZ (Below.refl _ _)
   have hzw2:w.heap.size<(w.alloc (.cells #[.int .i64 S, .bool pl, .int .i64 K, .int .i64 da, .int .i64 pa, .int .i64 ch] 23)).heap.size:=by simp
   generalize w.alloc (.cells #[.int .i64 S, .bool pl, .int .i64 K, .int .i64 da, .int .i64 pa, .int .i64 ch] 23)=wa at *
   have HWA:Hid (∀wx,Below wa.heap.size wa wx->Below w.heap.size w wx):=fun wx h=>HBW.out.trans (h.mono HBW.out.size)
   refine(D1.out _).mono ?_
   rintro e w1 ⟨rfl,hb1⟩
   have B1:Hid (Below wa.heap.size wa w1):=hb1
   have E2:=hid (D2.out w1 (HWA.out _ hb1))
   have q:=hid (HBA.out.step B1.out)
   have k0:=q.out.cell 0
   have k1:=q.out.cell 1
   have k2:=q.out.cell 2
   have k3:=q.out.cell 3
   have k4:=q.out.cell 4
   have k5:=q.out.cell 5
   simp only[List.getElem?_toArray,List.getElem?_cons_zero,List.getElem?_cons_succ]at k0 k1 k2 k3 k4 k5
   clear q
   clear hb1 D1 D2
   go_wp2_with fail
   refine E2.out.mono ?_
   rintro e w2 ⟨v2,rfl,ho2,hb2⟩
   obtain⟨A2,cc2,rfl⟩:=bZ ho2
   have B2:Hid (Below wa.heap.size wa w2):=cZ hb2 B1.out
   have P2:Hid (Part.Ok (⟨A2,cc2,R⟩:Part) w2):=lZ ho2 HRL.out
   have HSR:Hid (∀wx,Below w2.heap.size w2 wx->Src wx A2 r0 cc2 1 (dZ .u8 R)):=fun wx hb=>by
    have p:=P2.out.step hb
    have r:=p.row
    have ni:=p.nil
    simp only[HRL.out]at r ni
    exact ekZ r HRL.out ni
   have HS4:Hid (∀wx,Below w2.heap.size w2 wx->wx.cell? ⟨w.heap.size,0,none⟩=some (.int .i64 S)/\wx.cell? ⟨w.heap.size,1,none⟩=some (.bool pl)/\wx.cell? ⟨w.heap.size,2,none⟩=some (.int .i64 K)):=fun wx h=>⟨(HBA.out.step (cZ h B2.out)).cell 0,(HBA.out.step (cZ h B2.out)).cell 1,(HBA.out.step (cZ h B2.out)).cell 2⟩
   obtain⟨j0,hj0,hy0,hy1,hy2⟩:=info_parts hbZ
   clear ho2 hb2 E2 B1 k0 k1 k2 k3 k4 k5
   go_upto_region 7 with fail
   go_region_held3 (fun wx=>wx.cell? ⟨w.heap.size,0,none⟩=some (.int .i64 S)/\wx.cell? ⟨w.heap.size,1,none⟩=some (.bool pl)/\wx.cell? ⟨w.heap.size,2,none⟩=some (.int .i64 K)) (first|exact HS4.out _ ((Below.refl _ _).drew)|(refine HS4.out _ ?_;(repeat(first|(with_reducible first|exact Below.refl _ _|assumption|refine Below.drew ?_|refine below_drewN ?_ _|refine aZ ?_|refine cZ (by assumption) ?_)|((with_reducible first|refine jZ ?_ ?_|refine eZ ?_ ?_|refine gZ (by assumption) ?_ ?_);(focus(first|(simp;done)|(simp;omega)|omega|(simp at *;omega))))))))
    (first|(go_at_call 42;(with_reducible refine(D4.out _).mono ?_);rintro e wF ⟨rfl,rfl⟩)|(go_at_call 33;(with_reducible refine(D3.out _).mono ?_);rintro e w3 ⟨v3,rfl,ho3,hb3⟩;obtain⟨A3,cc3,rfl⟩:=bZ ho3;have B3:Below w2.heap.size w2 w3:=cZ hb3 (by first|exact(Below.refl _ _).drew|exact Below.refl _ _|(repeat(first|(with_reducible first|exact Below.refl _ _|assumption|refine Below.drew ?_|refine below_drewN ?_ _|refine aZ ?_|refine cZ (by assumption) ?_)|((with_reducible first|refine jZ ?_ ?_|refine eZ ?_ ?_|refine gZ (by assumption) ?_ ?_);(focus(first|(simp;done)|(simp;omega)|omega|(simp at *;omega)))))));have hz3:=B3.size;have HO3:w3.ownsRow w2.heap.size 5 1 (.slice A3 h0 cc3) h0 (dZ .u8 HC):=nZ ho3 (by simp))|(refine Nums.ttZ rfl (.tmp 29) (.tmp 30) 29 rfl w2.heap.size 5 j0 _ 1 1 Tryz.underlying29 hj0 hy0 hy1 hy2 rfl (by decide) (.slice A3 h0 cc3) h0 (dZ .u8 HC) (by rfl) HO3 A2 r0 cc2 (dZ .u8 R) (by rfl) (HSR.out _ B3) (qZ _ _) (by unfold maxLen;omega) (by omega) hz3 ?_;intro A4 c4 w4 hown4 hg4;have HB4:Below w2.heap.size w2 w4:=Below.grown B3 hg4 hz3 (fun y hy=>(World.ownsRow.lt HO3 y hy).1)))
   all_goals
    have B4:Hid (Below w2.heap.size w2 w4):=HB4
    have HZ:Hid (w.heap.size<=w2.heap.size):=(HWA.out _ B2.out).size
    have HO4:Hid (w4.ownsRow w2.heap.size 5 1 (.slice A4 (h0+r0) c4) (h0+r0) (dZ .u8 (HC++R))):=by
     show w4.ownsRow w2.heap.size 5 1 (.slice A4 (h0+r0) c4) (h0+r0) (dZ .u8 (HC++R))
     rw[snZ]
     exact hown4
    clear hown4 hg4 HB4 HO3 hz3 B3 hb3 ho3
    go_wp2_with fail
    go_ret2
    refine⟨_,rfl,?_,HWA.out _ (cZ B4.out B2.out)⟩
    have h:=nZ HO4.out HZ.out
    rw[List.length_append,HCL.out,HRL.out]
    exact h
  ·have hE:keZ o l=mcZ o l:=by unfold keZ;rw[if_neg (by simp[ho])]
   have hR:egZ o l= []:=if_neg (by rw[hE];exact hm)
   have hm6:mcZ o l=6∨mcZ o l=9:=by
    unfold mcZ at hm ⊢
    split
    ·rename_i h;exact .inr (inZ h)
    ·rename_i h
     rw[if_neg h]at hm
     split
     ·rename_i h;exact .inl (liZ h)
     ·rename_i h;rw[if_neg h]at hm;exact absurd rfl hm
   unfold bhZ
   rw[hE,hR]
   generalize geZ o l=R at *
   generalize mcZ o l=E at *
   obtain⟨S,pl,bu,da,pa,ch⟩:=o
   unfold Opt.val at D1 D2 ⊢
   simp only at D1 D2 ⊢
   clear hcd ht ha hok hn hE hR ho hm
   rcases hm6 with rfl|rfl
   all_goals
    go_enter Tryz.func11,Tryz.ntmps11
    go_wp2_with fail
    have HBA:Hid (Blk (w.alloc (.cells #[.int .i64 S, .bool pl, .int .i64 bu, .int .i64 da, .int .i64 pa, .int .i64 ch] 23)) w.heap.size 23 #[.int .i64 S, .bool pl, .int .i64 bu, .int .i64 da, .int .i64 pa, .int .i64 ch]):=Blk.made _ _ _
    have HBW:Hid (Below w.heap.size w (w.alloc (.cells #[.int .i64 S, .bool pl, .int .i64 bu, .int .i64 da, .int .i64 pa, .int .i64 ch] 23))):=aZ (Below.refl _ _)
    have hzw2:w.heap.size<(w.alloc (.cells #[.int .i64 S, .bool pl, .int .i64 bu, .int .i64 da, .int .i64 pa, .int .i64 ch] 23)).heap.size:=by simp
    generalize w.alloc (.cells #[.int .i64 S, .bool pl, .int .i64 bu, .int .i64 da, .int .i64 pa, .int .i64 ch] 23)=wa at *
    have HWA:Hid (∀wx,Below wa.heap.size wa wx->Below w.heap.size w wx):=fun wx h=>HBW.out.trans (h.mono HBW.out.size)
    refine(D1.out _).mono ?_
    rintro e w1 ⟨rfl,hb1⟩
    have B1:Hid (Below wa.heap.size wa w1):=hb1
    have E2:=hid (D2.out w1 (HWA.out _ hb1))
    have q:=hid (HBA.out.step B1.out)
    have k0:=q.out.cell 0
    have k1:=q.out.cell 1
    have k2:=q.out.cell 2
    have k3:=q.out.cell 3
    have k4:=q.out.cell 4
    have k5:=q.out.cell 5
    simp only[List.getElem?_toArray,List.getElem?_cons_zero,List.getElem?_cons_succ]at k0 k1 k2 k3 k4 k5
    clear q
    clear hb1 D1 D2
    go_wp2_with fail
    refine E2.out.mono ?_
    rintro e w2 ⟨v2,rfl,ho2,hb2⟩
    have B2:Hid (Below wa.heap.size wa w2):=cZ hb2 B1.out
    clear ho2 hb2 E2 B1 k0 k1 k2 k3 k4 k5
    go_wp2_with fail
    go_ret2
    exact⟨_,rfl,World.ownsRow_nil _ _ _ _,HWA.out _ B2.out⟩
 ·have h9:=wpZ ho
  have hE:keZ o l=9:=by unfold keZ;rw[if_pos ho,h9]
  have hR:egZ o l= []:=if_neg (by rw[hE];simp)
  have D1:=hid (fun wx=>kmZ wx o)
  rw[h9]at D1
  unfold bhZ
  rw[hE,hR]
  unfold Opt.val at D1 ⊢
  clear hcd ht ha hok hn hE hR ho h9
  go_enter Tryz.func11,Tryz.ntmps11
  go_wp2_with fail
  refine(D1.out _).mono ?_
  rintro e w1 ⟨rfl,hb1⟩
  have B1:Hid (Below w.heap.size w w1):=cZ hb1 (aZ (Below.refl _ _))
  clear hb1 D1
  go_wp2_with fail
  go_ret2
  exact⟨_,rfl,World.ownsRow_nil _ _ _ _,B1.out⟩
end Go.Proofs.YtmlaajebadfkoaaGreatDoor.Two
namespace Go.Proofs.YtmlaajebadfkoaaGreatDoor.Two
open Go.RowKit Mem Go.Proofs.YtmlaajebadfkoaaGreatDoor.Own Canon NumPut Crc
open Recs Opts Go.Proofs.YtmlaajebadfkoaaGreatDoor.One Go.Proofs.YtmlaajebadfkoaaGreatDoor.Body Idx
open Go.Proofs.YtmlaajebadfkoaaGreatDoor.Block (lZ ueZ)
theorem qeZb{P:Program}{w:World}{ops:Array Oper}{rest:List Oper}{o:Oper}{a:Act}{Q:Exit->Act->World->Prop}(hgw:Region.wanted o (yielded ops a.tmps)=true)(s x:Operand)(t:TypeId)
 (ho:o.op= .call {callee:= .builtin .append,args:=#[s,x],argTypes:=#[t,t] })
 (base:Nat)(e:TypeId)(i:TypeInfo)(z:Value)(size bytes:Nat)(ht:P.underlying t=some (.slice e))(hi:P.info? e=some i)(hz:i.zero=some z)
 (hsize:i.size=size)(hby:i.bytes=bytes)(hzs:z.cells.size=size)(hsz:0<size)
 (v:Value)(n:Nat)(xs:List Value)(hs:a.eval s=v)(hown:w.ownsRow base e size v n xs)
 (A:Option Addr)(m c:Nat)(news:List Value)(hx:a.eval x= .slice A m c)(hsrc:Src w A m c size news)(h1:∀u∈news,u.oneCell'=true)
 (h63:n+m<=maxLen)(hbytes:(n+m)*bytes<=140737488355328)(hbase:base<=w.heap.size)
 (h:∀v' w',w'.ownsRow base e size v' (n+m) (xs++news)->w.grownBy w' v.ownBlock->(v'.ownBlock=v.ownBlock∨v'.ownBlock=some w.heap.size)->wpList P ops Q rest (a.put o.dst v') w'):wpList P ops Q (o :: rest) a w:=by
 refine wpList_step fun K hK=> ?_
 rw[if_pos hgw]
 obtain⟨v',w',hr,h2,h3,h5⟩:=wnZ (P:=P) w base t o.type e i z size bytes ht hi hz hsize hby hzs hsz v n xs hown A m c news hsrc h1 h63 hbytes hbase
 unfold Oper.wp execOp
 simp only[ho,resolve,invoke,builtin,Sem.run_bind,Sem.run_pure,Result.andThen_ok,List.map_toArray,List.map_cons,List.map_nil,hs,hx,hr]
 exact hK _ _ (h v' w' h2 h3 h5)
theorem xlZb{o:Opt}{l:List Rec}(hok:∀r∈l,ccZ r):∀x∈egZ o l,x<=255:=by
 unfold egZ
 split
 ·intro x hx
  rcases List.mem_append.1 hx with hx|hx
  ·exact bdZb (by unfold oeZ;split<;>omega) x hx
  ·exact woZb hok x hx
 ·intro x hx;cases hx
theorem hgZb:keZ exB []=0/\egZ exB []=qeZ 16 0 1++peZ 0 [] [] [] [0]:=by
 have hE:keZ exB []=0:=by decide
 refine⟨hE,?_⟩
 have h1:geZ exB []=peZ 0 [] [] [] [0]:=by
  unfold geZ
  rw[if_pos (by decide),ggZb]
 unfold egZ
 rw[if_pos hE,h1]
 rfl
theorem qqZb(w:World)(ht:TabAt w):Calls Tryz.prog 7 #[] w fun e w'=>e= .returned (.bool true)/\Below w.heap.size w w':=by
 obtain⟨j0,hj0,hy0,hy1,hy2⟩:=info_parts hbZ
 have hix:(ixR exB []).length<=99000:=(wcZb (o:=exB) (l:= []) (n:=0) rfl (by omega) (by simp[blZ])).2 (by decide)
 have D1:=hid (cdZb w exB none 0 0 [] rfl (by omega) (Nat.le_refl _) (by simp) (fun _=>⟨by omega,by simp[vZ],by simp[ibZ],fun _=>hix⟩) ht Row.zero)
 unfold bhZ at D1
 rw[hgZb.1,hgZb.2]at D1
 unfold Opt.val exB at D1
 simp only at D1
 have DH:=hid (fun wx=>mzZ wx 16 0 1 (by omega) (by omega) (by omega))
 have D2:Hid (∀wx:World,Calls Tryz.prog 34 #[.int .i64 0, .slice none 0 0, .slice none 0 0, .slice none 0 0, .slice (some ⟨wx.heap.size,0,none⟩) 1 1] (wx.alloc (.cells #[.int .u8 0] 5)) fun e w'=>∃v,e= .returned v/\w'.ownsRow (wx.alloc (.cells #[.int .u8 0] 5)).heap.size 5 1 v (peZ 0 [] [] [] [0]).length (dZ .u8 (peZ 0 [] [] [] [0]))/\Below (wx.alloc (.cells #[.int .u8 0] 5)).heap.size (wx.alloc (.cells #[.int .u8 0] 5)) w'):=fun wx=>by
  have hk3:Blk (wx.alloc (.cells #[.int .u8 0] 5)) wx.heap.size 5 #[.int .u8 0]:=Blk.made _ _ _
  exact gtZ (wx.alloc (.cells #[.int .u8 0] 5)) 0 0 0 0 0 0 1 none none none (some ⟨wx.heap.size,0,none⟩) [] [] [] [0] (by omega) (by omega) rfl rfl (by simp) (by simp) (by simp) (by simp) (by simp) (by simp) (World.ownsRow_nil _ _ _ _) (fun p hp=>by cases hp) Row.zero ⟨Row.zero,fun _=>⟨rfl,rfl⟩⟩ ⟨Row.of_blk hk3 hk3.lt fun i j hi hj=>by
   obtain rfl:j=0:=by omega
   match i,hi with
   |0,_=>rfl,fun e=>by cases e⟩
 have hF8:∀x∈qeZ 16 0 1++peZ 0 [] [] [] [0],x<=255:=fun x hx=>by
  rcases List.mem_append.1 hx with hx|hx
  ·exact bdZb (by omega) x hx
  ·exact adZb (by simp) (by simp) (by simp) x hx
 have hhl:(qeZ 16 0 1).length<=30:=prZ (by omega) (by omega)
 have hfl:(peZ 0 [] [] [] [0]).length<=300000:=by
  have h:=qrZ (o:=exB) (l:= []) (n:=0) rfl (by omega) (by simp) (by simp[vZ]) hix
  rw[ggZb]at h
  exact h
 generalize peZ 0 [] [] [] [0]=F at *
 generalize qeZ 16 0 1=HC at *
 obtain⟨h0,hh0⟩:∃h0,h0=HC.length:=⟨_,rfl⟩
 obtain⟨f0,hf0⟩:∃f0,f0=F.length:=⟨_,rfl⟩
 rw[List.length_append,<-hh0,<-hf0]at D1
 rw[<-hh0]at DH hhl
 rw[<-hf0]at D2 hfl
 have hGL:(HC++F).length=h0+f0:=by rw[List.length_append,hh0,hf0]
 have HAP:Hid (dZ .u8 (HC++F)=dZ .u8 HC++dZ .u8 F):=snZ _ _ _
 generalize HC++F=G at *
 have DS:Hid (∀ (wx:World) Ax cx Ay cy,Part.Ok (⟨Ax,cx,G⟩:Part) wx->Part.Ok (⟨Ay,cy,G⟩:Part) wx->Calls Tryz.prog 12 #[.slice Ax (h0+f0) cx, .slice Ay (h0+f0) cy] wx fun e w'=>e= .returned (.bool true)/\wx=w'):=fun wx Ax cx Ay cy P Q=>by
  have p1:=P.row
  have q1:=Q.row
  simp only[hGL]at p1 q1
  refine(Huff.ubZb wx Ax Ay (h0+f0) (h0+f0) cx cy G G hGL hGL (fun e=>hGL.symm.trans (P.nil e).1) (fun e=>hGL.symm.trans (Q.nil e).1) hF8 hF8 p1 q1).mono ?_
  rintro e w' ⟨rfl,rfl⟩
  exact⟨by simp,rfl⟩
 have HGL:=hid hGL
 clear hF8 ht hix hGL hh0 hf0
 go_enter Tryz.func7,Tryz.ntmps7
 go_wp2_with fail
 refine D1.out.mono ?_
 rintro e w1 ⟨v1,rfl,ho1,hb1⟩
 obtain⟨A1,c1,rfl⟩:=bZ ho1
 have P1:Hid (Part.Ok (⟨A1,c1,G⟩:Part) w1):=lZ ho1 HGL.out
 have HB1:=hid hb1
 clear ho1 hb1 D1
 go_wp2_with fail
 refine(DH.out w1).mono ?_
 rintro e w2 ⟨v2,rfl,ho2,hb2⟩
 obtain⟨A2,c2,rfl⟩:=bZ ho2
 have HO2:=hid ho2
 have HB2:=hid hb2
 have E2:=hid (D2.out w2)
 clear ho2 hb2 DH D2
 go_wp2_with fail
 refine E2.out.mono ?_
 rintro e w3 ⟨v3,rfl,ho3,hb3⟩
 obtain⟨A3,c3,rfl⟩:=bZ ho3
 have HS3:Hid (Src w3 A3 f0 c3 1 (dZ .u8 F)):=tZ ho3
 have B23:Hid (Below w2.heap.size w2 w3):=cZ hb3 (aZ (Below.refl _ _))
 have HO3:Hid (w3.ownsRow w1.heap.size 5 1 (.slice A2 h0 c2) h0 (dZ .u8 HC)):=fZ HO2.out (fun y hy=>B23.out.block y (World.ownsRow.lt HO2.out y hy).2)
 have HB3:Hid (Below w1.heap.size w1 w3):=cZ B23.out HB2.out
 have hz3:=HB3.out.size
 clear ho3 hb3 E2 HO2 B23
 go_wp2_with(at_builtin;refine qeZb (by first|rfl|simp[Region.wanted,yielded]) (.tmp 12) (.tmp 14) 29 rfl w1.heap.size 5 j0 _ 1 1 Tryz.underlying29 hj0 hy0 hy1 hy2 rfl (by decide) _ _ _ (by rfl) HO3.out _ _ _ _ (by rfl) HS3.out (qZ _ _) (by unfold maxLen;omega) (by omega) hz3 ?_;intro v4 w4 hown4 hg4 hat4;have HB4:Hid (Below w1.heap.size w1 w4):=HB3.out.grown hg4 hz3 (fun y hy=>(World.ownsRow.lt HO3.out y hy).1);have HO4:Hid (w4.ownsRow w1.heap.size 5 1 v4 (h0+f0) (dZ .u8 G)):=(by rw[HAP.out];exact hown4);clear hown4 hg4 hat4;obtain⟨A4,c4,rfl⟩:=bZ HO4.out)
 refine(DS.out w4 A1 c1 A4 c4 (P1.out.step HB4.out) (lZ HO4.out HGL.out)).mono ?_
 rintro e w5 ⟨rfl,rfl⟩
 go_wp2_with fail
 go_ret
 exact⟨rfl,cZ HB4.out HB1.out⟩
theorem viZb(w:World)(o:Opt)(A:Option Addr)(n c:Nat)(l:List Rec)(hn:l.length=n)(hN:n<=9223372036854775807)(hc:n<=c)(hok:∀r∈l,ccZ r)(ht:TabAt w)(ha:Row w w.heap.size A n 4 (xbZ l)):
 Calls Tryz.prog 3 #[o.val, .slice A n c] w fun e w'=>e= .returned (.bool true)/\Below w.heap.size w w':=by
 have D0:=hid (fun wx (hx:Below w.heap.size w wx)=>qqZb wx (ht.step hx))
 have D1:=hid (fun wx (hx:Below w.heap.size w wx)=>refcheck_any wx A n c l hn hN ((ha.below hx).mono hx.size))
 have D2:=hid (fun wx (hx:Below w.heap.size w wx)=>mjZb wx A n c l 30 1500 (by omega) hn hN ((ha.below hx).mono hx.size))
 have D3:=hid (fun wx (hx:Below w.heap.size w wx) (hcd:pdZ l=0->Cd o l n)=>cdZb wx o A n c l hn hN hc hok hcd (ht.step hx) ((ha.below hx).mono hx.size))
 have D4:=hid (fun wx (hx:Below w.heap.size w wx) (hcd:pdZ l=0->Cd o l n)=>wlZb wx o A n c l hn hN hc hok hcd (ht.step hx) ((ha.below hx).mono hx.size))
 have hR8:=xlZb (o:=o) hok
 have HCD:Hid ((n:Int)<=30/\nbZ l<=1500->pdZ l=0->Cd o l n):=fun h hk=>⟨by omega,peZb hn hok hk (by omega) (by omega),wcZb hn h.1 h.2⟩
 unfold bhZ at D3 D4
 unfold yxZ at D2
 generalize keZ o l=E at *
 generalize egZ o l=R at *
 obtain⟨L,hL⟩:∃L,L=R.length:=⟨_,rfl⟩
 have HRL:Hid (R.length=L):=hL.symm
 rw[<-hL]at D3 D4
 have DS:Hid (∀ (wx:World) Ax cx Ay cy,Part.Ok (⟨Ax,cx,R⟩:Part) wx->Part.Ok (⟨Ay,cy,R⟩:Part) wx->Calls Tryz.prog 12 #[.slice Ax L cx, .slice Ay L cy] wx fun e w'=>e= .returned (.bool true)/\wx=w'):=fun wx Ax cx Ay cy P Q=>by
  have p1:=P.row
  have q1:=Q.row
  simp only[HRL.out]at p1 q1
  refine(Huff.ubZb wx Ax Ay L L cx cy R R hL.symm hL.symm (fun e=>hL.trans (P.nil e).1) (fun e=>hL.trans (Q.nil e).1) hR8 hR8 p1 q1).mono ?_
  rintro e w' ⟨rfl,rfl⟩
  exact⟨by simp,rfl⟩
 obtain⟨S,pl,bu,da,pa,ch⟩:=o
 unfold Opt.val at D3 D4 ⊢
 simp only at D3 D4 ⊢
 have ge:(E==E)=true:=by simp
 by_cases hk:pdZ l=0
 ·rw[hk]at D1
  have HK:=hid hk
  clear hn hok ht ha hk hR8 hL
  go_enter Tryz.func3,Tryz.ntmps3
  go_wp2_with fail
  have hba:Blk (w.alloc (.cells #[.int .i64 S, .bool pl, .int .i64 bu, .int .i64 da, .int .i64 pa, .int .i64 ch] 23)) w.heap.size 23 #[.int .i64 S, .bool pl, .int .i64 bu, .int .i64 da, .int .i64 pa, .int .i64 ch]:=Blk.made _ _ _
  have hbw:Below w.heap.size w (w.alloc (.cells #[.int .i64 S, .bool pl, .int .i64 bu, .int .i64 da, .int .i64 pa, .int .i64 ch] 23)):=aZ (Below.refl _ _)
  generalize w.alloc (.cells #[.int .i64 S, .bool pl, .int .i64 bu, .int .i64 da, .int .i64 pa, .int .i64 ch] 23)=wa at *
  have HWA:Hid (∀wx,Below wa.heap.size wa wx->Below w.heap.size w wx):=fun wx h=>hbw.trans (h.mono hbw.size)
  have HBA:=hid hba
  have HBW:=hid hbw
  clear hba hbw
  refine(D0.out wa HBW.out).mono ?_
  rintro e w1 ⟨rfl,hb1⟩
  have B1:Hid (Below wa.heap.size wa w1):=hb1
  have E1:=hid (D1.out w1 (HWA.out _ B1.out))
  clear hb1 D0 D1
  go_wp2_with fail
  refine E1.out.mono ?_
  rintro e w2 ⟨rfl,hb2⟩
  have B2:Hid (Below wa.heap.size wa w2):=cZ hb2 B1.out
  have E2:=hid (D2.out w2 (HWA.out _ B2.out))
  clear hb2 E1 D2 B1
  go_wp2_with fail
  refine E2.out.mono ?_
  rintro e w5 ⟨gr,rfl,hgr,hb5⟩
  have B5:Hid (Below wa.heap.size wa w5):=cZ hb5 B2.out
  clear hb5 E2 B2
  cases gr with
  |true=>
   clear hgr
   go_wp2_with fail
   go_ret
   exact⟨rfl,HWA.out _ B5.out⟩
  |false=>
   have E5:=hid (D3.out w5 (HWA.out _ B5.out) (HCD.out (hgr rfl)))
   have E6A:=hid (fun wx hx=>D4.out wx hx (HCD.out (hgr rfl)))
   clear hgr D3 D4 HCD
   have q5:=hid (HBA.out.step B5.out)
   have k0:=q5.out.cell 0
   have k1:=q5.out.cell 1
   have k2:=q5.out.cell 2
   have k3:=q5.out.cell 3
   have k4:=q5.out.cell 4
   have k5:=q5.out.cell 5
   simp only[List.getElem?_toArray,List.getElem?_cons_zero,List.getElem?_cons_succ]at k0 k1 k2 k3 k4 k5
   clear q5
   go_wp2_with fail
   refine E5.out.mono ?_
   rintro e w6 ⟨v6,rfl,ho6,hb6⟩
   obtain⟨A6,c6,rfl⟩:=bZ ho6
   have B6:Hid (Below wa.heap.size wa w6):=cZ hb6 B5.out
   have P6:Hid (Part.Ok (⟨A6,c6,R⟩:Part) w6):=lZ ho6 HRL.out
   have E6:=hid (E6A.out w6 (HWA.out _ B6.out))
   clear ho6 hb6 E5 k0 k1 k2 k3 k4 k5 B5 E6A
   have q6:=hid (HBA.out.step B6.out)
   have k0:=q6.out.cell 0
   have k1:=q6.out.cell 1
   have k2:=q6.out.cell 2
   have k3:=q6.out.cell 3
   have k4:=q6.out.cell 4
   have k5:=q6.out.cell 5
   simp only[List.getElem?_toArray,List.getElem?_cons_zero,List.getElem?_cons_succ]at k0 k1 k2 k3 k4 k5
   clear q6
   go_wp2_with fail
   refine E6.out.mono ?_
   rintro e w7 ⟨v7,rfl,ho7,hb7⟩
   obtain⟨A7,c7,rfl⟩:=bZ ho7
   have B7:Hid (Below wa.heap.size wa w7):=cZ hb7 B6.out
   have P7:Hid (Part.Ok (⟨A7,c7,R⟩:Part) w7):=lZ ho7 HRL.out
   have E7:=hid (DS.out w7 A6 c6 A7 c7 (P6.out.step hb7) P7.out)
   clear ho7 hb7 E6 k0 k1 k2 k3 k4 k5 B6 P6 P7 DS
   go_wp2_with fail
   refine E7.out.mono ?_
   rintro e w8 ⟨rfl,rfl⟩
   go_wp2_with fail
   go_ret
   exact⟨rfl,HWA.out _ B7.out⟩
 ·have h6:=One.liZ hk
  rw[h6]at D1
  have D5:=hid (fun wx hx=>D3.out wx hx (fun h=>absurd h hk))
  have E6A:=hid (fun wx hx=>D4.out wx hx (fun h=>absurd h hk))
  clear hn hok ht ha hk hR8 hL h6 D3 D4 D2 HCD
  go_enter Tryz.func3,Tryz.ntmps3
  go_wp2_with fail
  have hba:Blk (w.alloc (.cells #[.int .i64 S, .bool pl, .int .i64 bu, .int .i64 da, .int .i64 pa, .int .i64 ch] 23)) w.heap.size 23 #[.int .i64 S, .bool pl, .int .i64 bu, .int .i64 da, .int .i64 pa, .int .i64 ch]:=Blk.made _ _ _
  have hbw:Below w.heap.size w (w.alloc (.cells #[.int .i64 S, .bool pl, .int .i64 bu, .int .i64 da, .int .i64 pa, .int .i64 ch] 23)):=aZ (Below.refl _ _)
  generalize w.alloc (.cells #[.int .i64 S, .bool pl, .int .i64 bu, .int .i64 da, .int .i64 pa, .int .i64 ch] 23)=wa at *
  have HWA:Hid (∀wx,Below wa.heap.size wa wx->Below w.heap.size w wx):=fun wx h=>hbw.trans (h.mono hbw.size)
  have HBA:=hid hba
  have HBW:=hid hbw
  clear hba hbw
  refine(D0.out wa HBW.out).mono ?_
  rintro e w1 ⟨rfl,hb1⟩
  have B1:Hid (Below wa.heap.size wa w1):=hb1
  have E1:=hid (D1.out w1 (HWA.out _ B1.out))
  clear hb1 D0 D1
  have q1:=hid (HBA.out.step B1.out)
  go_wp2_with fail
  refine E1.out.mono ?_
  rintro e w5 ⟨rfl,hb2⟩
  have B5:Hid (Below wa.heap.size wa w5):=cZ hb2 B1.out
  have E5:=hid (D5.out w5 (HWA.out _ B5.out))
  clear hb2 E1 B1 D5 q1
  have q5:=hid (HBA.out.step B5.out)
  have k0:=q5.out.cell 0
  have k1:=q5.out.cell 1
  have k2:=q5.out.cell 2
  have k3:=q5.out.cell 3
  have k4:=q5.out.cell 4
  have k5:=q5.out.cell 5
  simp only[List.getElem?_toArray,List.getElem?_cons_zero,List.getElem?_cons_succ]at k0 k1 k2 k3 k4 k5
  clear q5
  go_wp2_with fail
  refine E5.out.mono ?_
  rintro e w6 ⟨v6,rfl,ho6,hb6⟩
  obtain⟨A6,c6,rfl⟩:=bZ ho6
  have B6:Hid (Below wa.heap.size wa w6):=cZ hb6 B5.out
  have P6:Hid (Part.Ok (⟨A6,c6,R⟩:Part) w6):=lZ ho6 HRL.out
  have E6:=hid (E6A.out w6 (HWA.out _ B6.out))
  clear ho6 hb6 E5 k0 k1 k2 k3 k4 k5 B5 E6A
  have q6:=hid (HBA.out.step B6.out)
  have k0:=q6.out.cell 0
  have k1:=q6.out.cell 1
  have k2:=q6.out.cell 2
  have k3:=q6.out.cell 3
  have k4:=q6.out.cell 4
  have k5:=q6.out.cell 5
  simp only[List.getElem?_toArray,List.getElem?_cons_zero,List.getElem?_cons_succ]at k0 k1 k2 k3 k4 k5
  clear q6
  go_wp2_with fail
  refine E6.out.mono ?_
  rintro e w7 ⟨v7,rfl,ho7,hb7⟩
  obtain⟨A7,c7,rfl⟩:=bZ ho7
  have B7:Hid (Below wa.heap.size wa w7):=cZ hb7 B6.out
  have P7:Hid (Part.Ok (⟨A7,c7,R⟩:Part) w7):=lZ ho7 HRL.out
  have E7:=hid (DS.out w7 A6 c6 A7 c7 (P6.out.step hb7) P7.out)
  clear ho7 hb7 E6 k0 k1 k2 k3 k4 k5 B6 P6 P7 DS
  go_wp2_with fail
  refine E7.out.mono ?_
  rintro e w8 ⟨rfl,rfl⟩
  go_wp2_with fail
  go_ret
  exact⟨rfl,HWA.out _ B7.out⟩
end Go.Proofs.YtmlaajebadfkoaaGreatDoor.Two
