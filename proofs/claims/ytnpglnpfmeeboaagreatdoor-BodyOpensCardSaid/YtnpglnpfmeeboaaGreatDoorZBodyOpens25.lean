/- A body of a log: the walk of body.Make. Bodies that are made: all ways -/
import Derived.Test.YtnpglnpfmeeboaaGreatDoorZBodyOpens21
import Derived.Test.YtnpglnpfmeeboaaGreatDoorZBodyOpens23
import Derived.Test.YtnpglnpfmeeboaaGreatDoorZBodyOpens24
import Derived.Test.YtnpglnpfmeeboaaGreatDoorZBodyOpens3
import Derived.Test.YtnpglnpfmeeboaaGreatDoorZBodyOpens12
import Derived.Deep.RegionHeld3
namespace Go.Proofs.YtnpglnpfmeeboaaGreatDoor end Go.Proofs.YtnpglnpfmeeboaaGreatDoor open Go.Proofs.YtnpglnpfmeeboaaGreatDoor
open Go.Lib (hid)
set_option maxHeartbeats 8000000
set_option maxRecDepth 100000
namespace Go.Proofs.YtnpglnpfmeeboaaGreatDoor.Body
open Go.RowKit Mem Go.Proofs.YtnpglnpfmeeboaaGreatDoor.Own Canon NumPut Crc
open Recs Opts Idx
open Go.Proofs.YtnpglnpfmeeboaaGreatDoor.Block (wfZ rZ)
open Go.Proofs.YtnpglnpfmeeboaaGreatDoor.One (FrsAt FrsAt.step FrsAt.grown FrsAt.snoc udZ hqZ ekZ kjZ)
def toZ(o:Opt)(l:List Rec)(w:World)(e:Ending)(w':World):Prop:=
 ∃v,e= .returned (.tuple #[v, .int .i64 0])/\w'.ownsRow w.heap.size 5 1 v (olZ o l).length (cZ .u8 (olZ o l))/\Below w.heap.size w w'
end Go.Proofs.YtnpglnpfmeeboaaGreatDoor.Body
namespace Go.Proofs.YtnpglnpfmeeboaaGreatDoor.Body
open Go.RowKit Mem Go.Proofs.YtnpglnpfmeeboaaGreatDoor.Own Canon NumPut Crc
open Recs Opts Idx
open Go.Proofs.YtnpglnpfmeeboaaGreatDoor.Block (rZ)
theorem xiZb(x:Nat):∀y∈zeZ x,y<=255:=fun y h=>by
 unfold zeZ at h
 simp only[List.mem_cons,List.not_mem_nil,or_false]at h
 rcases h with rfl|rfl|rfl|rfl<;>omega
theorem wgZb{n:Nat}{G:List Nat}{FS:List (List Nat)}{cols idx:List Nat}(h1:∀x∈FS.flatten,x<=255)(h2:∀x∈cols,x<=255)(h3:∀x∈idx,x<=255):∀x∈peZ n G FS cols idx,x<=255:=fun x hx=>by
 unfold peZ at hx
 simp only[List.mem_append]at hx
 rcases hx with hx|hx|hx|hx|hx
 ·exact h1 x hx
 ·exact mqZ h2 x hx
 ·exact mqZ h3 x hx
 ·exact mqZ (nqZ _ _ _ _ _) x hx
 ·exact xiZb _ x hx
def exB:Opt:=⟨16,false,1,0,0,0⟩
theorem yiZb:olZ exB []=peZ 0 [] [] [] [0]:=by
 have h1:ixR exB []= [0]:=by
  unfold ixR ixO vcZ pfZ
  simp[ubZ,viZ,cjZ,wdZ]
 have h2:pdZ exB []= []:=rfl
 have h3:dgZ ([]:List Rec)= []:=by
  unfold dgZ
  simp[sbZ,xbZ,wbZ,lvB]
 unfold olZ
 rw[h1,h2,h3]
 rfl
end Go.Proofs.YtnpglnpfmeeboaaGreatDoor.Body
namespace Go.Proofs.YtnpglnpfmeeboaaGreatDoor.Body
open Go.RowKit Mem Go.Proofs.YtnpglnpfmeeboaaGreatDoor.Own Canon Recs Idx
open Go.Proofs.YtnpglnpfmeeboaaGreatDoor.Crc (TabAt)
theorem len_nil(w:World):Calls Tryz.prog 12 #[.pointer none] w fun e w'=>e= .returned (.int .i64 0)/\w=w':=by
 go_enter Tryz.func12,Tryz.ntmps12
 go_wp2_with fail
 go_ret
 exact⟨rfl,rfl⟩
theorem caZb(w:World):Calls Tryz.prog 14 #[.pointer none] w fun e w'=>e= .returned (.slice none 0 0)/\w=w':=by
 go_enter Tryz.func14,Tryz.ntmps14
 go_wp2_with fail
 go_ret
 exact⟨rfl,rfl⟩
theorem adZb(w:World):Calls Tryz.prog 19 #[.pointer none] w fun e w'=>e= .returned (.slice none 0 0)/\w=w':=by
 go_enter Tryz.func19,Tryz.ntmps19
 go_wp2_with fail
 go_ret
 exact⟨rfl,rfl⟩
theorem daZb(w:World):Calls Tryz.prog 16 #[.pointer none] w fun e w'=>e= .returned (.slice none 0 0)/\w=w':=by
 go_enter Tryz.func16,Tryz.ntmps16
 go_wp2_with fail
 go_ret
 exact⟨rfl,rfl⟩
theorem eaZb(w:World):Calls Tryz.prog 22 #[.pointer none] w fun e w'=>e= .returned (.slice none 0 0)/\w=w':=by
 go_enter Tryz.func22,Tryz.ntmps22
 go_wp2_with fail
 go_ret
 exact⟨rfl,rfl⟩
theorem bdZb(w:World):Calls Tryz.prog 18 #[.pointer none] w fun e w'=>e= .returned (.agg #[.slice none 0 0, .slice none 0 0])/\Below w.heap.size w w':=by
 go_enter Tryz.func18,Tryz.ntmps18
 go_wp2_with fail
 refine bodyPost_ret (v:= .agg #[.slice none 0 0, .slice none 0 0]) ?_ rfl ⟨rfl,?_⟩
 ·simp[results,Tryz.results18,go_sem]
 ·(repeat(first|(with_reducible first|exact Below.refl _ _|assumption|refine Below.drew ?_|refine below_drewN ?_ _|refine bZ ?_|refine eZ (by assumption) ?_)|((with_reducible first|refine fZ ?_ ?_|refine gZ ?_ ?_|refine iZ (by assumption) ?_ ?_);(focus(first|(simp;done)|(simp;omega)|omega|(simp at *;omega))))))
theorem cdZb(w:World)(i:Int):Calls Tryz.prog 20 #[.pointer none, .int .i64 i] w fun e w'=>e= .returned (.tuple #[.int .i64 0, .bool false])/\w=w':=by
 have C:=hid (len_nil w)
 by_cases h:i<0
 ·have g:decide (i<0)=true:=by simpa using h
  clear h C
  go_enter Tryz.func20,Tryz.ntmps20
  go_wp2_with fail
  go_ret2
  exact⟨rfl,rfl⟩
 ·have g:decide (i<0)=false:=by simpa using h
  have g2:decide (0<=i)=true:=by simp;omega
  clear h
  go_enter Tryz.func20,Tryz.ntmps20
  go_wp2_with fail
  refine C.out.mono ?_
  rintro e w' ⟨rfl,rfl⟩
  go_wp2_with fail
  go_ret2
  exact⟨rfl,rfl⟩
theorem faZb(w:World):Calls Tryz.prog 17 #[.agg #[.slice none 0 0, .slice none 0 0], .agg #[.slice none 0 0, .slice none 0 0]] w fun e w'=>e= .returned (.bool true)/\Below w.heap.size w w':=by
 have C:=hid (fun wx=>dnZ wx none none 0 0 0 0 [] [] rfl rfl (by omega) Row.zero Row.zero)
 go_enter Tryz.func17,Tryz.ntmps17
 go_wp2_with fail
 refine(C.out _).mono ?_
 rintro e w' ⟨rfl,q,rfl⟩
 go_wp2_with fail
 go_loopw [5] (fun iv wx=>iv= .int .i64 0/\wx=((w.alloc (.cells #[.slice none 0 0, .slice none 0 0] 36)).alloc (.cells #[.slice none 0 0, .slice none 0 0] 36)).drewN q) (fun iv _=>0)
 case atStart=>exact⟨rfl,rfl⟩
 case round=>
  obtain⟨rfl,rfl⟩:=hrel
  go_wp2_with fail
  go_ret
  refine⟨rfl,?_⟩
  (repeat(first|(with_reducible first|exact Below.refl _ _|assumption|refine Below.drew ?_|refine below_drewN ?_ _|refine bZ ?_|refine eZ (by assumption) ?_)|((with_reducible first|refine fZ ?_ ?_|refine gZ ?_ ?_|refine iZ (by assumption) ?_ ?_);(focus(first|(simp;done)|(simp;omega)|omega|(simp at *;omega))))))
end Go.Proofs.YtnpglnpfmeeboaaGreatDoor.Body
namespace Go.Proofs.YtnpglnpfmeeboaaGreatDoor.Idx
open Go.RowKit Go.Maps Mem Go.Proofs.YtnpglnpfmeeboaaGreatDoor.Own Canon Sift
open Recs Go.Proofs.YtnpglnpfmeeboaaGreatDoor
theorem ddZb(w:World)(A:Option Addr)(n c:Nat)(l:List Rec)(hn:l.length=n)(hN:n<=20000)(hn0:n<=0)(ha:Row w w.heap.size A n 4 (ueZ l)):
 Calls Tryz.prog 70 #[.slice A n c] w (uuZ (l.map yZ) w):=by
 obtain⟨j0,hj0,hy0,hy1,hy2⟩:=info_parts scZb
 have HN:=hid hn
 have HN0:=hid hn0
 have hmm:=@run_makeMap Tryz.prog
 unfold uuZ
 clear hn hn0
 go_enter Tryz.func70,Tryz.ntmps70
 go_wp2_with fail
 have hbx:Blk (w.alloc (.cells #[.slice none 0 0, .slice none 0 0] 36)) w.heap.size 36 #[.slice none 0 0, .slice none 0 0]:=Blk.made _ _ _
 have hb0:Below w.heap.size w (w.alloc (.cells #[.slice none 0 0, .slice none 0 0] 36)):=bZ (Below.refl _ _)
 have hz0:(w.alloc (.cells #[.slice none 0 0, .slice none 0 0] 36)).heap.size=w.heap.size+1:=by simp
 generalize w.alloc (.cells #[.slice none 0 0, .slice none 0 0] 36)=w1 at *
 rw[<-hz0]
 have HM2:Hid (MI (w1.alloc (.map #[] 0)) w1.heap.size 0 w.heap.size (.map []) (fun _=> []) (fun _=> .slice none 0 0)):=MI.start w1 w.heap.size
 have HX2:=hid (hbx.alloc (.map #[] 0))
 have HB2:Hid (Below w.heap.size w (w1.alloc (.map #[] 0))):=bZ hb0
 obtain⟨mb,hmb⟩:∃mb,mb=w1.heap.size:=⟨_,rfl⟩
 rw[<-hmb]at HM2 ⊢
 have HMB:Hid (w.heap.size<=mb):=by show _<=_;rw[hmb];exact hb0.size
 generalize w1.alloc (.map #[] 0)=w2 at *
 clear hbx hb0 hz0 hmb hmm
 go_loopw [14] (fun iv wr=>∃ (k m:Nat) (D:DataW Value) (V:Str->Value),k<=n/\m<=100000*k/\iv= .int .i64 k/\Hid (MI wr mb m w.heap.size D (keZ ((l.take k).map yZ)) V)/\Hid (Blk wr w.heap.size 36 #[.slice none 0 0, .slice none 0 0])/\Hid (Below w.heap.size w wr)) (fun iv _=>n-(intOf iv).toNat)
 case atStart=>exact⟨0,0, .map [],fun _=> .slice none 0 0,by omega,by omega,rfl,HM2.out,HX2.out,HB2.out⟩
 case round=>
  obtain⟨k,m,D,V,hk,hm,rfl,HM,HX,HB⟩:=hrel
  clear HM2 HX2 HB2
  obtain⟨w0,rfl⟩:∃w0:World,w0=wr:=⟨_,rfl⟩
  by_cases hlt:k<n
  ·exact absurd hlt (by have:=HN0.out;omega)
  ·obtain rfl:k=n:=by omega
   have gk:decide ((k:Int)<(k:Int))=false:=by simp
   have gk':decide (k<k)=false:=by simp
   have hall:l.take k=l:=List.take_of_length_le (by rw[HN.out];exact Nat.le_refl _)
   rw[hall]at HM
   have hlen:(l.map yZ).length=k:=by rw[List.length_map,HN.out]
   obtain⟨TS,hTS⟩:∃TS,TS=l.map yZ:=⟨_,rfl⟩
   rw[<-hTS]at HM hlen
   have HTSE:=hid hTS
   have HLEN:=hid hlen
   clear hall hTS hlen ha
   have hbx:Blk (w0.alloc (.cells #[.slice none 0 0, .slice none 0 0] 36)) w0.heap.size 36 #[.slice none 0 0, .slice none 0 0]:=Blk.made _ _ _
   have hb1:Below w0.heap.size w0 (w0.alloc (.cells #[.slice none 0 0, .slice none 0 0] 36)):=bZ (Below.refl _ _)
   obtain⟨bo,hbo⟩:∃bo,bo=w0.heap.size:=⟨_,rfl⟩
   go_wp2_with fail
   rw[<-hbo]at hbx ⊢
   have hbl:w.heap.size<bo:=by rw[hbo];exact HX.out.lt
   generalize w0.alloc (.cells #[.slice none 0 0, .slice none 0 0] 36)=w3 at *
   have HM3:=hid (HM.out.step hb1)
   have HX3:=hid (HX.out.step hb1)
   have HB3:Hid (Below w.heap.size w w3):=eZ hb1 HB.out
   have HBX3:=hid hbx
   have hms:=ogZb HM3.out.map
   have hm2:m<=2000000000:=by omega
   have DK:=hid (callsIn_wide.1 (Tryz.maps_Keys_126 (some mb) w3))
   have DS:=hid (callsIn_wide.1 (Tryz.slices_Sorted_keys_125_126 mb m D szZ w3 HM3.out.map (by unfold maxLen;omega) (by omega)))
   clear hb1 hbx HM HX HB hbo
   refine DK.out.mono ?_
   rintro e w4 ⟨rfl,rfl⟩
   clear DK
   go_wp2_with fail
   refine DS.out.mono ?_
   rintro e w5 ⟨vS,ss,rfl,hperm,hown,hnil,hb5⟩
   have hkeys:=HM3.out.keys hperm (bnZ TS) (lqZ TS)
   have hql:ss.length=(ubZ TS).length:=by rw[<-hkeys];exact(List.length_mergeSort ss).symm
   rw[hql,show ss.mergeSort (fun x y=>decide (x<=y))=ubZ TS from hkeys,ueZb]at hown
   have hb35:Below w3.heap.size w3 w5:=eZ hb5 (bZ (Below.refl _ _))
   have hown5:w5.ownsRow w.heap.size 9 1 vS (ubZ TS).length (zbZ (ubZ TS)):=nZ hown (by have:=HB3.out.size;simp;omega)
   obtain⟨SS,hSS⟩:∃SS,SS=ubZ TS:=⟨_,rfl⟩
   rw[<-hSS]at hown5
   have hqm:SS.length<=2000000000:=by
    rw[hSS,<-hql,hperm.length_eq]
    refine Nat.le_trans ?_ (Nat.le_trans hms hm2)
    unfold strKeys Maps.size
    cases D<;>simp
   obtain⟨q,hq⟩:∃q,q=SS.length:=⟨_,rfl⟩
   rw[<-hq]at hown5 hqm
   obtain⟨AS,cS,rfl⟩:=aZ hown5
   have HS5:Hid (St3 w5 mb m w.heap.size w.heap.size bo w5.heap.size D (keZ TS) V (.slice AS q cS) (.slice none 0 0) (.slice none 0 0) q 0 0 SS):=
    ⟨HM3.out.step hb35,HX3.out.step hb35,HBX3.out.step hb35,by omega,World.ownsRow_nil _ _ _ _,World.ownsRow_nil _ _ _ _,hown5,fun g hg=>(World.ownsRow.lt hown5 g hg).2,by have:=HB3.out.size;have:=hb35.size;omega,Nat.le_refl _⟩
   have HB5:Hid (Below w.heap.size w w5):=eZ hb35 HB3.out
   have HQ:=hid hq
   have HSSE:=hid hSS
   have HLG:Hid (∀s∈SS,s.length<=25):=fun s hs=>HM3.out.long s ((lqZ TS s).1 (by rw[<-HSSE.out];exact hs))
   have HIL:Hid (∀s,(keZ TS s).length<=20000):=fun s=>by have h1:=eyZ TS s;have h2:=HLEN.out;omega
   obtain⟨B2,hB2⟩:∃B2,B2=w5.heap.size:=⟨_,rfl⟩
   rw[<-hB2]at HS5
   clear hperm hown hnil hb5 hkeys hql hb35 hown5 hq hSS DS HM3 HX3 HBX3 HB3 hB2 hms hm2
   obtain⟨i0,hi0,hx0,hx1,hx2⟩:=info_parts seZb
   obtain⟨i1,hi1,hw0,hw1,hw2⟩:=info_parts tcZb
   go_wp2_with fail
   go_loopw [40] (fun iv wr=>∃ (k2:Nat) (vT vL:Value),k2<=q/\iv= .int .i64 k2/\Hid (St3 wr mb m w.heap.size w.heap.size bo B2 D (keZ TS) V (.slice AS q cS) vT vL q k2 k2 SS)/\Hid (Below w.heap.size w wr)) (fun iv _=>q-(intOf iv).toNat)
   case atStart=>exact⟨0,_,_,by omega,rfl,HS5.out,HB5.out⟩
   case round=>
    obtain⟨k2,vT,vL,hk2,rfl,HS,HB⟩:=hrel
    clear HS5 HB5
    by_cases hkl:k2<q
    ·have gj:decide ((k2:Int)<(q:Int))=true:=by simp;omega
     have gj':decide (k2<q)=true:=by simp;omega
     have y0:(0:Int)<=(k2:Int):=by omega
     have y1:(k2:Int)<(q:Int):=by omega
     obtain⟨t,ht⟩:∃t,SS[k2]? =some t:=⟨_,List.getElem?_eq_getElem (by have:=HQ.out;omega)⟩
     obtain⟨g,cg,hAg,hbg,_⟩:=HS.out.ss.form (by omega)
     injection hAg with hA1 hA2 hA3
     subst hA1 hA3
     have ck:wr.cell? ⟨g,k2,none⟩=some (.string (bs t)):=by rw[HS.out.ss.cellAt k2 (by omega)];exact pkZ ht
     have htk:SS.take (k2+1)=SS.take k2++ [t]:=by rw[List.take_add_one,ht];rfl
     have HTK:=hid htk
     have htl:=HLG.out t (List.mem_of_getElem? ht)
     have HTL:=hid htl
     obtain⟨A5,c5,rfl⟩:=aZ HS.out.tt
     obtain⟨A8,c8,rfl⟩:=aZ HS.out.ll
     obtain⟨A7,c7,hV⟩:=aZ (HS.out.mi.row t)
     have HV:=hid hV
     have b0:=HS.out.box.cell 0
     simp only[List.getElem?_toArray,List.getElem?_cons_zero]at b0
     have hzr:=HB.out.size
     have hb2z:=HS.out.bz
     have hb22:=HS.out.b2
     obtain⟨p,hp⟩:∃p,p=(keZ TS t).length:=⟨_,rfl⟩
     rw[<-hp]at HV
     clear ht htk htl hV hp
     go_wp2_with(first|(at_builtin;refine kZ rfl (.tmp 45) (.tmp 47) 33 rfl B2 9 i0 _ 1 16 Tryz.underlying33 hi0 hx0 hx1 hx2 rfl (by decide) _ _ _ (by rfl) (HS.out.tt.alloc _) _ 1 1 [.string (bs t)] (by rfl) (Src.of_blk (Blk.made _ _ _) 1 1 1 rfl) (by intro u hu;simp at hu;rcases hu with rfl;rfl) (by unfold maxLen;omega) (by omega) (by simp;omega) ?_;intro v6 w6 hown6 hg6 hat6;obtain⟨A6,c6,rfl⟩:=aZ hown6;have hS6:=HS.out.putT hg6 (by rw[HTK.out,qhZ];exact hown6);have hlk:=hS6.mi.look t (by have:=HTL.out;unfold maxLen;omega);rw[HV.out]at hlk;have f6:=((HS.out.box.alloc _).grown hg6 (fun e=>jZ HS.out.tt HS.out.box (by decide) e.symm)).frozen 0;have e6:=((HS.out.box.alloc _).grown hg6 (fun e=>jZ HS.out.tt HS.out.box (by decide) e.symm)).cell 0;have e61:=((HS.out.box.alloc _).grown hg6 (fun e=>jZ HS.out.tt HS.out.box (by decide) e.symm)).cell 1;simp only[List.getElem?_toArray,List.getElem?_cons_zero,List.getElem?_cons_succ]at e6 e61;have HB6:Hid (Below w.heap.size w w6):=(gZ hzr HB.out).grown hg6 (by simp;omega) (fun y hy=>Nat.le_trans hb22 (World.ownsRow.lt HS.out.tt y hy).1);have H6:=hid hS6;have hb6z:=hS6.bz;clear hS6 hown6 hg6 hat6)|(at_builtin;refine kZ rfl (.tmp 51) (.tmp 55) 34 rfl B2 30 i1 _ 1 24 Tryz.underlying34 hi1 hw0 hw1 hw2 rfl (by decide) _ _ _ (by rfl) (H6.out.ll.alloc _) _ 1 1 [.slice A7 p c7] (by rfl) (Src.of_blk (Blk.made_at _ _ _ (by simp)) 1 1 1 rfl) (by intro u hu;simp at hu;rcases hu with rfl;rfl) (by unfold maxLen;omega) (by omega) (by simp at hb6z ⊢;omega) ?_;intro v9 w9 hown9 hg9 hat9;obtain⟨A9,c9,rfl⟩:=aZ hown9;have hS9:=H6.out.putL hg9 (by rw[HTK.out,List.map_append,List.map_singleton,HV.out];exact hown9);have f9:=((H6.out.box.alloc _).grown hg9 (fun e=>jZ H6.out.ll H6.out.box (by decide) e.symm)).frozen 1;have e9:=((H6.out.box.alloc _).grown hg9 (fun e=>jZ H6.out.ll H6.out.box (by decide) e.symm)).cell 1;simp only[List.getElem?_toArray,List.getElem?_cons_zero,List.getElem?_cons_succ]at e9;have HB9:Hid (Below w.heap.size w w9):=(gZ (by have:=HB6.out.size;simp;omega) (fZ (Nat.le_of_lt hbl) HB6.out)).grown hg9 (by have:=HB6.out.size;simp;omega) (fun y hy=>Nat.le_trans hb22 (World.ownsRow.lt H6.out.ll y hy).1);have H9:=hid hS9;clear hS9 hown9 hg9 hat9))
     have HBF:Hid (Below w.heap.size w (w9.setCell ⟨bo,1,none⟩ (.slice A9 (k2+1) c9))):=fZ (Nat.le_of_lt hbl) HB9.out
     clear H6 HB6 HB9 HS HB
     go_roundw
     case measure=>go_light;simp[intOf];omega
     case rel=>go_light;exact⟨k2+1,_,_,by omega,by first|rfl|go_num,H9.out,HBF.out⟩
    ·obtain rfl:k2=q:=by omega
     have gj:decide ((k2:Int)<(k2:Int))=false:=by simp
     have gj':decide (k2<k2)=false:=by simp
     obtain⟨A5,c5,rfl⟩:=aZ HS.out.tt
     obtain⟨A8,c8,rfl⟩:=aZ HS.out.ll
     have b0:=HS.out.box.cell 0
     have b1:=HS.out.box.cell 1
     have r0:=HS.out.res.cell 0
     have r1:=HS.out.res.cell 1
     have s0:=HS.out.res.frozen 0
     have s1:=HS.out.res.frozen 1
     simp only[List.getElem?_toArray,List.getElem?_cons_zero,List.getElem?_cons_succ]at b0 b1 r0 r1
     go_wp2_with fail
     have hfull:SS.take k2=SS:=List.take_of_length_le (by rw[<-HQ.out];exact Nat.le_refl _)
     have ht1:=HS.out.tt
     have hl1:=HS.out.ll
     rw[hfull]at ht1 hl1
     have hbw:=HS.out.b2
     have n1:(Value.slice A5 k2 c5).ownBlock≠some w.heap.size:=jZ ht1 HS.out.res (by decide)
     have n2:(Value.slice A8 k2 c8).ownBlock≠some w.heap.size:=jZ hl1 HS.out.res (by decide)
     refine bodyPost_ret (v:= .agg #[.slice A5 k2 c5, .slice A8 k2 c8]) ?_ rfl ⟨_,_,SS.map V,rfl,⟨?_,?_,?_⟩,?_⟩
     ·have e0:=(HS.out.res.set 0 (.slice A5 k2 c5)).cell 0
      have e1:=((HS.out.res.set 0 (.slice A5 k2 c5)).set 1 (.slice A8 k2 c8)).cell 1
      simp at e0 e1
      simp[results,Tryz.results70,go_sem,e0,e1]
     ·rw[<-HTSE.out,<-HSSE.out,<-HQ.out]
      exact feZ (feZ (nZ ht1 hbw) n1 _) n1 _
     ·rw[<-HTSE.out,<-HSSE.out,List.length_map,<-HQ.out]
      exact feZ (feZ (nZ hl1 hbw) n2 _) n2 _
     ·intro i v ids hv hi
      rw[<-HTSE.out,<-HSSE.out]at hi
      rw[List.getElem?_map]at hv hi
      cases hs:SS[i]? with
      |none=>rw[hs]at hv;cases hv
      |some s=>
       rw[hs]at hv hi
       injection hv with hv
       injection hi with hi
       subst hv hi
       have hn:=jZ (HS.out.mi.row s) HS.out.res (by decide)
       exact feZ (feZ (HS.out.mi.row s) hn _) hn _
     ·exact fZ (Nat.le_refl _) (fZ (Nat.le_refl _) HB.out)
end Go.Proofs.YtnpglnpfmeeboaaGreatDoor.Idx
namespace Go.Proofs.YtnpglnpfmeeboaaGreatDoor.Body
open Go.RowKit Mem Go.Proofs.YtnpglnpfmeeboaaGreatDoor.Own Canon NumPut Crc
open Recs Opts Idx
open Go.Proofs.YtnpglnpfmeeboaaGreatDoor.Block (wfZ rZ)
open Go.Proofs.YtnpglnpfmeeboaaGreatDoor.One (FrsAt FrsAt.step FrsAt.grown FrsAt.snoc udZ hqZ ekZ kjZ)
theorem xgZb(w:World)(o:Opt)(A:Option Addr)(n c:Nat)(l:List Rec)(ho:lfZ o=0)(hn:l.length=n)(hN:n<=1000)(hc:n<=c)(hok:∀r∈l,oiZ r)(hk:wtZ l=0)(hb:(mgZ false l).length<=16000)(hT:(ubZ (l.map yZ)).length<=20000)(hix:(ixR o l).length<=99000)(ht:TabAt w)(hg0:(pdZ o l).length=0)(hn0:n<=0)(ha:Row w w.heap.size A n 4 (ueZ l)):
 Calls Tryz.prog 32 #[o.val, .slice A n c] w (toZ o l w):=by
 have HG0:=hid hg0
 clear hg0
 obtain⟨j0,hj0,hy0,hy1,hy2⟩:=info_parts ekZ
 obtain⟨i0,hi0,hw0,hw1,hw2⟩:=info_parts Ef.xrZ
 have hlong:=hqZ hk
 obtain⟨hb1,hb2,hb3,hb4⟩:=gyZ ho
 have hgl:=swZ o l
 have hgs:=rwZ o l
 have hgp:∀x∈pdZ o l,1<=x:=One.flZ _ _
 rw[hn]at hgl
 obtain⟨blk,pl,bu,da,pa,ch⟩:=o
 simp only at hb1 hb2 hb3 hb4
 obtain⟨S,rfl⟩:=Int.eq_ofNat_of_zero_le (show 0<=blk by omega)
 obtain⟨BU,rfl⟩:=Int.eq_ofNat_of_zero_le (show 0<=bu by omega)
 have D1:=hid (fun wx=>jpZ wx ⟨(S:Nat),pl,(BU:Nat),da,pa,ch⟩)
 rw[ho]at D1
 have D2:=hid (fun wx (hx:Below w.heap.size w wx)=>czZ wx A n c l hn (by omega) ((ha.below hx).mono hx.size))
 rw[hk]at D2
 have D3:=hid (fun wx (hx:Below w.heap.size w wx)=>fzZ wx S false A n c l (by omega) (by omega) hn (by omega) hok hlong ((ha.below hx).mono hx.size))
 have DC:=hid (fun wx (hx:Below w.heap.size w wx)=>axZ wx A n c l hn (by omega) hc hok ((ha.below hx).mono hx.size))
 have hszl:∀r∈l,r.source.size<=50000/\r.text.size<=50000:=fun r hr=>by
  obtain⟨a,b⟩:=ffZ (hlong r hr)
  omega
 have DB:=hid (fun wx (hx:Below w.heap.size w wx)=>ddZb wx A n c l hn (by omega) hn0 ((ha.below hx).mono hx.size))
 unfold uuZ at DB
 have hix1:=wcZb l
 have DX:=hid (fun wx base vT vL vals (h:IxAt wx base vT vL vals (ubZ (l.map yZ)) ((ubZ (l.map yZ)).map (keZ (l.map yZ))))=>zwZ wx BU n base vT vL vals (ubZ (l.map yZ)) ((ubZ (l.map yZ)).map (keZ (l.map yZ))) (by omega) (by omega) (by omega) hT (by rw[List.length_map]) (fyZ (by omega)) (fun x hx=>(hix1.2 x hx).1) (by rw[<-hn];exact hix1.1) h)
 have hIXe:ixR ⟨(S:Nat),pl,(BU:Nat),da,pa,ch⟩ l=ixO BU n (ubZ (l.map yZ)) ((ubZ (l.map yZ)).map (keZ (l.map yZ))):=by unfold ixR;rw[hn];rfl
 rw[<-hIXe]at DX
 unfold clZ at D3
 unfold soZ at DC
 have hcE:yeZ S (ndZ false l)=pdZ ⟨(S:Nat),pl,(BU:Nat),da,pa,ch⟩ l:=rfl
 rw[hcE]at D3
 unfold toZ Opt.val
 unfold Opt.val at D1
 simp only at D1 ⊢
 have HMB:Hid (olZ ⟨(S:Nat),pl,(BU:Nat),da,pa,ch⟩ l=peZ n (pdZ ⟨(S:Nat),pl,(BU:Nat),da,pa,ch⟩ l) (fgZ false pl (pdZ ⟨(S:Nat),pl,(BU:Nat),da,pa,ch⟩ l) l) (dgZ l) (ixR ⟨(S:Nat),pl,(BU:Nat),da,pa,ch⟩ l)):=by show _=_;unfold olZ;rw[hn]
 have hcl:=trZ hok (by omega)
 rw[hn]at hcl
 have hc8:=vfZb hok
 have hix8:=wjZb ⟨(S:Nat),pl,(BU:Nat),da,pa,ch⟩ l
 have hfl:=mnZ false pl (pdZ ⟨(S:Nat),pl,(BU:Nat),da,pa,ch⟩ l) l hb
 generalize olZ ⟨(S:Nat),pl,(BU:Nat),da,pa,ch⟩ l=MB at *
 generalize pdZ ⟨(S:Nat),pl,(BU:Nat),da,pa,ch⟩ l=G at *
 generalize ixR ⟨(S:Nat),pl,(BU:Nat),da,pa,ch⟩ l=IX at *
 generalize dgZ l=CB at *
 generalize ubZ (l.map yZ)=TS at *
 generalize TS.map (keZ (l.map yZ))=LS at *
 obtain⟨g,hg⟩:∃g,g=G.length:=⟨_,rfl⟩
 rw[<-hg]at D3 hgl hfl
 obtain⟨FR,hFR⟩:∃FR,FR=fgZ false pl G l:=⟨_,rfl⟩
 rw[<-hFR]at HMB hfl
 have HFR:=hid hFR
 have HGL:=hid hg
 have HGS:=hid hgs
 have HPOS:=hid hgp
 have HT:=hid ht
 have HOK:=hid hok
 have HLO:=hid hlong
 have HN:=hid hn
 have HC8:=hid hc8
 have HFL:=hid hfl
 have HIX:=hid hix
 have HIX8:=hid hix8
 have HRA:Hid (Row w w.heap.size A n 4 (ueZ l)):=ha
 clear hn0 ho hk hcE hg hgs hgp ht hok hlong hFR hszl hix1 hIXe hc8 hfl hn hix ha hT hix8
 go_enter Tryz.func32,Tryz.ntmps32
 go_wp2_with fail
 have hba:Blk (w.alloc (.cells #[.int .i64 S, .bool pl, .int .i64 BU, .int .i64 da, .int .i64 pa, .int .i64 ch] 23)) w.heap.size 23 #[.int .i64 S, .bool pl, .int .i64 BU, .int .i64 da, .int .i64 pa, .int .i64 ch]:=Blk.made _ _ _
 have hbw:Below w.heap.size w (w.alloc (.cells #[.int .i64 S, .bool pl, .int .i64 BU, .int .i64 da, .int .i64 pa, .int .i64 ch] 23)):=bZ (Below.refl _ _)
 have hzw:(w.alloc (.cells #[.int .i64 S, .bool pl, .int .i64 BU, .int .i64 da, .int .i64 pa, .int .i64 ch] 23)).heap.size=w.heap.size+1:=by simp
 generalize w.alloc (.cells #[.int .i64 S, .bool pl, .int .i64 BU, .int .i64 da, .int .i64 pa, .int .i64 ch] 23)=wa at *
 have hzw2:w.heap.size<wa.heap.size:=by omega
 have HBW:=hid hbw
 have HS:Hid (∀wx,Below wa.heap.size wa wx->wx.cell? ⟨w.heap.size,0,none⟩=some (.int .i64 S)/\wx.cell? ⟨w.heap.size,1,none⟩=some (.bool pl)/\wx.cell? ⟨w.heap.size,2,none⟩=some (.int .i64 BU)):=fun wx h=>⟨(hba.step h).cell 0,(hba.step h).cell 1,(hba.step h).cell 2⟩
 have HWA:Hid (∀wx,Below wa.heap.size wa wx->Below w.heap.size w wx):=fun wx h=>hbw.trans (h.mono hbw.size)
 clear hba hbw hzw
 refine(D1.out _).mono ?_
 rintro e w1 ⟨rfl,hb1'⟩
 have B1:=hid hb1'
 have E2:=hid (D2.out w1 (HWA.out _ hb1'))
 clear hb1' D1 D2
 go_wp2_with fail
 refine E2.out.mono ?_
 rintro e w2 ⟨rfl,hb2'⟩
 have B2:Hid (Below wa.heap.size wa w2):=eZ hb2' B1.out
 have E3:=hid (D3.out w2 (HWA.out _ B2.out))
 have k0:=(HS.out w2 B2.out).1
 clear hb2' E2 D3 B1
 go_wp2_with fail
 refine E3.out.mono ?_
 rintro e w3 ⟨vG,rfl,hoG,hb3'⟩
 obtain⟨AG,cG,rfl⟩:=aZ hoG
 have B3:Hid (Below wa.heap.size wa w3):=eZ hb3' B2.out
 have HOG:=hid (nZ hoG B2.out.size)
 clear hb3' hoG E3 B2 k0
 have hbd:Blk (w3.alloc (.cells #[.slice AG g cG, .slice none 0 0, .int .i64 0, .int .i64 0] 79)) w3.heap.size 79 #[.slice AG g cG, .slice none 0 0, .int .i64 0, .int .i64 0]:=Blk.made _ _ _
 have d0:=hbd.cell 0
 simp only[List.getElem?_toArray,List.getElem?_cons_zero]at d0
 have hbb:Below w3.heap.size w3 (w3.alloc (.cells #[.slice AG g cG, .slice none 0 0, .int .i64 0, .int .i64 0] 79)):=bZ (Below.refl _ _)
 have HM0:Hid (MSt w3.heap.size w3.heap.size (.slice AG g cG) (.slice none 0 0) (.slice none 0 0) [] (w3.alloc (.cells #[.slice AG g cG, .slice none 0 0, .int .i64 0, .int .i64 0] 79))):=⟨hbd,World.ownsRow_nil _ _ _ _,(fun p hp=>by cases hp),World.ownsRow_nil _ _ _ _,Nat.le_refl _⟩
 go_wp2_with fail
 have HB0:=hid hbb
 clear hbd hbb d0
 generalize w3.alloc (.cells #[.slice AG g cG, .slice none 0 0, .int .i64 0, .int .i64 0] 79)=wd at *
 have HBW3:Hid (Below w.heap.size w w3):=HWA.out _ B3.out
 go_loopw [9,10,39] (fun pv av iv wx=>∃ (k at_:Nat) (ps:List Part) (vS:Value),k<=g/\at_<=n/\iv= .int .i64 k/\av= .int .i64 at_/\Hid (ps.map Part.ls++fgZ false pl (G.drop k) (l.drop at_)=FR)/\Hid (ps.length=k)/\Hid (at_+(G.drop k).sum=n)/\Hid (MSt w3.heap.size w3.heap.size (.slice AG g cG) pv vS ps wx)/\Hid (Below w3.heap.size w3 wx)) (fun _ _ iv _=>g-(intOf iv).toNat)
 case atStart=>exact⟨0,0,[],_,by omega,by omega,rfl,rfl,HFR.out.symm,rfl,by show _=_;rw[List.drop_zero,HGS.out,HN.out];omega,HM0.out,HB0.out⟩
 case round=>
  obtain⟨k,at_,ps,vS,hkg,hat,rfl,rfl,HF,HPL,HSM,HM,HB⟩:=hrel
  clear HM0 HB0
  have hz:=HB.out.size
  have hpr0:=HM.out.pr
  have hsr0:=HM.out.sr
  rw[HPL.out]at hpr0 hsr0
  obtain⟨AP,cP,rfl⟩:=aZ hpr0
  obtain⟨AS,cS,rfl⟩:=aZ hsr0
  clear hpr0 hsr0
  by_cases hlt:k<g
  ·exact absurd hlt (by have h1:=HGL.out;have h2:=HG0.out;omega)
  ·obtain rfl:k=g:=by omega
   have gk:decide ((k:Int)<(k:Int))=false:=by simp
   have gk':decide (k<k)=false:=by simp
   have hf:=HF.out
   rw[List.drop_of_length_le (by rw[<-HGL.out];exact Nat.le_refl _),fgZ,List.append_nil]at hf
   have HPS:=hid hf
   have HWX:Hid (Below w.heap.size w wr):=HBW3.out.trans (HB.out.mono HBW3.out.size)
   have E4:=hid (DC.out wr HWX.out)
   clear hf HF HSM
   go_wp2_with fail
   refine E4.out.mono ?_
   rintro e w4 ⟨v4,rfl,ho4,hb4'⟩
   obtain⟨A4,c4,rfl⟩:=aZ ho4
   have P4:Hid (Part.Ok (⟨A4,c4,CB⟩:Part) w4):=rZ ho4 rfl
   have HW4:Hid (Below w.heap.size w w4):=eZ hb4' HWX.out
   have HM4:=hid (HM.out.step hb4')
   have HB4:Hid (Below w3.heap.size w3 w4):=iZ hb4' hz HB.out
   have E5:=hid (put_any w4 A4 CB.length c4 CB rfl (by omega) P4.out.nil HC8.out (HT.out.step HW4.out) P4.out.row)
   unfold hfZ at E5
   obtain⟨cl,hcl4⟩:∃cl,cl=CB.length+4:=⟨_,rfl⟩
   rw[<-hcl4]at E5
   have HCL:=hid hcl4
   have hclb:cl<=30000:=by omega
   clear ho4 hb4' E4 DC hcl4 HM HB P4
   go_wp2_with fail
   refine E5.out.mono ?_
   rintro e w5 ⟨v5,rfl,ho5,hb5⟩
   obtain⟨A5,c5,rfl⟩:=aZ ho5
   have HW5:Hid (Below w.heap.size w w5):=eZ hb5 HW4.out
   have HM5:=hid (HM4.out.step hb5)
   have HB5:Hid (Below w3.heap.size w3 w5):=iZ hb5 HB4.out.size HB4.out
   have HO5:Hid (w5.ownsRow w3.heap.size 5 1 (.slice A5 cl c5) cl (cZ .u8 (dbZ CB))):=nZ ho5 HB4.out.size
   have HS5:Hid (∀wx,Below w3.heap.size w3 wx->wx.cell? ⟨w.heap.size,2,none⟩=some (.int .i64 BU)):=fun wx h=>(HS.out wx (eZ h B3.out)).2.2
   have kp:=HS5.out w5 HB5.out
   clear ho5 hb5 E5 HM4 HB4 HW4
   go_upto_region 21 with fail
   go_region_held3 (fun wx=>wx.cell? ⟨w.heap.size,2,none⟩=some (.int .i64 BU)) (first|exact kp|exact kp2|exact kp3) (first|(go_at_call 70;(with_reducible refine(DB.out _ (Below.drew HW5.out)).mono ?_);rintro e wA ⟨vT,vL,vals,rfl,hIX,hbA⟩;have BA:Below w5.heap.size w5 wA:=eZ hbA (Below.drew (Below.refl _ _));have kp2:=HS5.out wA (iZ BA HB5.out.size HB5.out))|(go_at_call 81;(with_reducible refine(DX.out _ _ _ _ _ hIX).mono ?_);rintro e w6 ⟨v6,rfl,ho6,hb6⟩;obtain⟨A6,c6,rfl⟩:=aZ ho6;have B6:Below w5.heap.size w5 w6:=eZ hb6 BA;have kp3:=HS5.out w6 (iZ B6 HB5.out.size HB5.out)))
   all_goals
    have P6:Hid (Part.Ok (⟨A6,c6,IX⟩:Part) w6):=rZ ho6 rfl
    have HM6:=hid (HM5.out.step B6)
    have HB6:Hid (Below w3.heap.size w3 w6):=iZ B6 HB5.out.size HB5.out
    have HW6:Hid (Below w.heap.size w w6):=eZ B6 HW5.out
    have HO56:Hid (w6.ownsRow w3.heap.size 5 1 (.slice A5 cl c5) cl (cZ .u8 (dbZ CB))):=dZ HO5.out fun y hy=>B6.block y (World.ownsRow.lt HO5.out y hy).2
    have E7:=hid (put_any w6 A6 IX.length c6 IX rfl (by have:=HIX.out;omega) P6.out.nil HIX8.out (HT.out.step HW6.out) P6.out.row)
    unfold hfZ at E7
    obtain⟨il,hil⟩:∃il,il=IX.length+4:=⟨_,rfl⟩
    rw[<-hil]at E7
    have HIL:=hid hil
    have hilb:il<=99004:=by have:=HIX.out;omega
    clear hIX hbA BA kp2 ho6 hb6 B6 kp3 kp hil HO5 HB5 HW5 HM5 P6
    go_wp2_with fail
    refine E7.out.mono ?_
    rintro e w7 ⟨v7,rfl,ho7,hb7⟩
    obtain⟨A7,c7,rfl⟩:=aZ ho7
    have HM7:=hid (HM6.out.step hb7)
    have HB7:Hid (Below w3.heap.size w3 w7):=iZ hb7 HB6.out.size HB6.out
    have HW7:Hid (Below w.heap.size w w7):=eZ hb7 HW6.out
    have HO7:Hid (w7.ownsRow w3.heap.size 5 1 (.slice A7 il c7) il (cZ .u8 (dbZ IX))):=nZ ho7 HB6.out.size
    have HO57:Hid (w7.ownsRow w3.heap.size 5 1 (.slice A5 cl c5) cl (cZ .u8 (dbZ CB))):=dZ HO56.out fun y hy=>hb7.block y (World.ownsRow.lt HO56.out y hy).2
    have HOG7:Hid (w7.ownsRow wa.heap.size 3 1 (.slice AG k cG) k (cZ .i64 G)):=dZ HOG.out fun y hy=>HB7.out.block y (World.ownsRow.lt HOG.out y hy).2
    have dc2:=HM7.out.dir.cell 2
    have dc3:=HM7.out.dir.cell 3
    have df2:=HM7.out.dir.frozen 2
    have df3:=HM7.out.dir.frozen 3
    simp only[List.getElem?_toArray,List.getElem?_cons_zero,List.getElem?_cons_succ]at dc2 dc3
    clear ho7 hb7 E7 HM6 HB6 HW6 HO56
    go_wp2_with fail
    obtain⟨hd8,hbl8,hk8⟩:=HM7.out.stores (.int .i64 (cl:Nat)) (.int .i64 (il:Nat))
    have ho5:=hk8 HO57.out (by decide)
    have ho7:=hk8 HO7.out (by decide)
    have hoG:=hk8 HOG7.out (by decide)
    have hpr:=hk8 HM7.out.pr (by decide)
    have hsr:=hk8 HM7.out.sr (by decide)
    have hfr:FrsAt _ w3.heap.size ps:=fun p hp=>hk8 (HM7.out.fr p hp) (by decide)
    have hB8:=HB7.out.trans hbl8
    have hW8:=HW7.out.trans (hbl8.mono HBW3.out.size)
    rw[HPL.out]at hpr hsr
    clear hk8 hbl8 HO57 HO7 HOG7 HM7 HB7 HW7 dc2 dc3 df2 df3
    generalize (w7.setCell ⟨w3.heap.size,2,none⟩ (.int .i64 (cl:Nat))).setCell ⟨w3.heap.size,3,none⟩ (.int .i64 (il:Nat))=w8 at *
    obtain⟨SZ,hSZ⟩:∃SZ,SZ=ps.map (fun p=>p.ls.length):=⟨_,rfl⟩
    rw[<-hSZ]at hsr
    have hSl:SZ.length=k:=by rw[hSZ,List.length_map];exact HPL.out
    have hSF:FR.map List.length=SZ:=by rw[<-HPS.out,hSZ,List.map_map];rfl
    have hSb:∀z∈SZ,z<=1000000000:=fun z hz=>by
     rw[<-hSF]at hz
     obtain⟨f,hf,rfl⟩:=List.mem_map.1 hz
     have h1:=One.vxZ hf
     have h2:=HFL.out
     omega
    have hGn:G.sum=n:=HGS.out.trans HN.out
    have E9:=hid (xuZ w8 w3.heap.size k cG cS cl il w8.heap.size AG AS G SZ HGL.out.symm hSl (by omega) (by omega) hSb (by omega) (by omega) hd8 (Ef.own_row hoG HGL.out.symm) (Ef.own_row hsr hSl) (Nat.le_refl _))
    rw[hGn]at E9
    have hDl:=pgZb (n:=n) (G:=G) (S:=SZ) (x:=cl) (y:=il) (by omega) (by rw[<-HGL.out];omega) (fun z hz=>by have:=wuZ hz;omega) hSb (by omega) (by omega)
    have hD8:=nqZ n G SZ cl il
    rw[<-HGL.out]at hDl
    have HJ:Hid (MB=FR.flatten++(dbZ CB++(dbZ IX++(dbZ (cfZ n G SZ cl il)++zeZ (dbZ (cfZ n G SZ cl il)).length)))):=by
     show _=_
     rw[HMB.out]
     unfold peZ
     rw[hSF,ddZ CB,ddZ IX,<-HCL.out,<-HIL.out]
    generalize cfZ n G SZ cl il=DI at *
    have HO5:=hid ho5
    have HO7:=hid ho7
    have HPR:=hid hpr
    have HFRS:=hid hfr
    have HB8:=hid hB8
    have HW8:=hid hW8
    have HD8:=hid hD8
    clear ho5 ho7 hoG hpr hsr hfr hB8 hW8 hSZ hSl hSF hSb hGn hd8 hD8 HMB
    refine E9.out.mono ?_
    rintro e w9 ⟨v9,rfl,ho9,hb9⟩
    obtain⟨A9,c9,rfl⟩:=aZ ho9
    have P9:Hid (Part.Ok (⟨A9,c9,DI⟩:Part) w9):=rZ ho9 rfl
    have HB9:Hid (Below w3.heap.size w3 w9):=iZ hb9 HB8.out.size HB8.out
    have HW9:Hid (Below w.heap.size w w9):=eZ hb9 HW8.out
    have E10:=hid (put_any w9 A9 DI.length c9 DI rfl (by omega) P9.out.nil HD8.out (HT.out.step HW9.out) P9.out.row)
    unfold hfZ at E10
    obtain⟨dl,hdl⟩:∃dl,dl=DI.length+4:=⟨_,rfl⟩
    rw[<-hdl]at E10
    have HDL:=hid hdl
    have hdlb:dl<=30000:=by omega
    have hk9:∀y,y<w8.heap.size->w9.heap[y]? =w8.heap[y]? :=hb9.block
    have HO59:Hid (w9.ownsRow w3.heap.size 5 1 (.slice A5 cl c5) cl (cZ .u8 (dbZ CB))):=dZ HO5.out fun y hy=>hb9.block y (World.ownsRow.lt HO5.out y hy).2
    have HO79:Hid (w9.ownsRow w3.heap.size 5 1 (.slice A7 il c7) il (cZ .u8 (dbZ IX))):=dZ HO7.out fun y hy=>hb9.block y (World.ownsRow.lt HO7.out y hy).2
    have HPR9:Hid (w9.ownsRow w3.heap.size 24 1 (.slice AP k cP) k (ps.map Part.v)):=dZ HPR.out fun y hy=>hb9.block y (World.ownsRow.lt HPR.out y hy).2
    have HFR9:Hid (FrsAt w9 w3.heap.size ps):=HFRS.out.step hb9
    clear ho9 hb9 E9 hdl HO5 HO7 HPR HFRS hk9 HB8 HW8 P9
    go_wp2_with fail
    refine E10.out.mono ?_
    rintro e w10 ⟨v10,rfl,ho10,hb10⟩
    obtain⟨A10,c10,rfl⟩:=aZ ho10
    have HB10:Hid (Below w3.heap.size w3 w10):=iZ hb10 HB9.out.size HB9.out
    have HW10:Hid (Below w.heap.size w w10):=eZ hb10 HW9.out
    have E11:=hid (pzZ w10 dl (by omega))
    have u9:IntKind.u64.wrap (dl:Int)=(dl:Int):=by rw[IntKind.wrap_u64];omega
    have HO10:Hid (w10.ownsRow w3.heap.size 5 1 (.slice A10 dl c10) dl (cZ .u8 (dbZ DI))):=nZ ho10 HB9.out.size
    have HO510:Hid (w10.ownsRow w3.heap.size 5 1 (.slice A5 cl c5) cl (cZ .u8 (dbZ CB))):=dZ HO59.out fun y hy=>hb10.block y (World.ownsRow.lt HO59.out y hy).2
    have HO710:Hid (w10.ownsRow w3.heap.size 5 1 (.slice A7 il c7) il (cZ .u8 (dbZ IX))):=dZ HO79.out fun y hy=>hb10.block y (World.ownsRow.lt HO79.out y hy).2
    have HPR10:Hid (w10.ownsRow w3.heap.size 24 1 (.slice AP k cP) k (ps.map Part.v)):=dZ HPR9.out fun y hy=>hb10.block y (World.ownsRow.lt HPR9.out y hy).2
    have HFR10:Hid (FrsAt w10 w3.heap.size ps):=HFR9.out.step hb10
    clear ho10 hb10 E10 HO59 HO79 HPR9 HFR9 HB9 HW9
    go_wp2_with fail
    refine E11.out.mono ?_
    rintro e w11 ⟨v11,rfl,ho11,hb11⟩
    obtain⟨A11,c11,rfl⟩:=aZ ho11
    have HB11:Hid (Below w3.heap.size w3 w11):=iZ hb11 HB10.out.size HB10.out
    have HW11:Hid (Below w.heap.size w w11):=eZ hb11 HW10.out
    have HO11:Hid (w11.ownsRow w3.heap.size 5 1 (.slice A11 4 c11) 4 (cZ .u8 (zeZ dl))):=nZ ho11 HB10.out.size
    have HO1011:Hid (w11.ownsRow w3.heap.size 5 1 (.slice A10 dl c10) dl (cZ .u8 (dbZ DI))):=dZ HO10.out fun y hy=>hb11.block y (World.ownsRow.lt HO10.out y hy).2
    have HO511:Hid (w11.ownsRow w3.heap.size 5 1 (.slice A5 cl c5) cl (cZ .u8 (dbZ CB))):=dZ HO510.out fun y hy=>hb11.block y (World.ownsRow.lt HO510.out y hy).2
    have HO711:Hid (w11.ownsRow w3.heap.size 5 1 (.slice A7 il c7) il (cZ .u8 (dbZ IX))):=dZ HO710.out fun y hy=>hb11.block y (World.ownsRow.lt HO710.out y hy).2
    have HPR11:Hid (w11.ownsRow w3.heap.size 24 1 (.slice AP k cP) k (ps.map Part.v)):=dZ HPR10.out fun y hy=>hb11.block y (World.ownsRow.lt HPR10.out y hy).2
    have HFR11:Hid (FrsAt w11 w3.heap.size ps):=HFR10.out.step hb11
    have hz11:=HB11.out.size
    clear ho11 hb11 E11 HO10 HO510 HO710 HPR10 HFR10 HB10 HW10
    go_wp2_with(at_builtin;have q1:=HPR11.out.alloc (.cells #[.slice A5 cl c5, .slice A7 il c7, .slice A10 dl c10, .slice A11 4 c11] 24);have q2:=(Src.of_blk (w:=w11.alloc (.cells #[.slice A5 cl c5, .slice A7 il c7, .slice A10 dl c10, .slice A11 4 c11] 24)) (g:=w11.heap.size) (Blk.made w11 24 #[.slice A5 cl c5, .slice A7 il c7, .slice A10 dl c10, .slice A11 4 c11]) 4 4 1 rfl);have q3:w3.heap.size<=(w11.alloc (.cells #[.slice A5 cl c5, .slice A7 il c7, .slice A10 dl c10, .slice A11 4 c11] 24)).heap.size:=Nat.le_trans hz11 (by simp);refine kZ rfl (.tmp 107) (.tmp 112) 31 rfl w3.heap.size 24 j0 _ 1 24 Tryz.underlying31 hj0 hy0 hy1 hy2 rfl (by decide) _ _ _ (by rfl) q1 _ _ _ _ (by rfl) q2 (by intro u hu;simp at hu;rcases hu with rfl|rfl|rfl|rfl<;>rfl) (by unfold maxLen;omega) (by omega) q3 ?_;intro v12 w12 hown12 hg12 hat12;obtain⟨g12,c12,rfl⟩:=piZ hown12)
    have hq1:=HPR11.out.alloc (.cells #[.slice A5 cl c5, .slice A7 il c7, .slice A10 dl c10, .slice A11 4 c11] 24)
    have r5:=udZ (HO511.out.alloc _) hq1 (by decide) hg12
    have r7:=udZ (HO711.out.alloc _) hq1 (by decide) hg12
    have r10:=udZ (HO1011.out.alloc _) hq1 (by decide) hg12
    have r11:=udZ (HO11.out.alloc _) hq1 (by decide) hg12
    have rfr:FrsAt w12 w3.heap.size ps:=(HFR11.out.step (bZ (Below.refl _ _))).grown hq1 hg12
    have hB12:Below w3.heap.size w3 w12:=(HB11.out.alloc hz11 _).grown hg12 (by simp;omega) (fun y hy=>(World.ownsRow.lt HPR11.out y hy).1)
    have e5:(dbZ CB).length=cl:=by rw[ddZ,HCL.out]
    have e7:(dbZ IX).length=il:=by rw[ddZ,HIL.out]
    have e10:(dbZ DI).length=dl:=by rw[ddZ,HDL.out]
    have e11:(zeZ dl).length=4:=rfl
    obtain⟨PS,hPS⟩:∃PS:List Part,PS=ps++ [⟨A5,c5,dbZ CB⟩,⟨A7,c7,dbZ IX⟩,⟨A10,c10,dbZ DI⟩,⟨A11,c11,zeZ dl⟩]:=⟨_,rfl⟩
    have hPSl:PS.length=k+3+1:=by rw[hPS,List.length_append,HPL.out];rfl
    have hPSv:PS.map Part.v=ps.map Part.v++ [.slice A5 cl c5, .slice A7 il c7, .slice A10 dl c10, .slice A11 4 c11]:=by
     rw[hPS,List.map_append]
     simp only[List.map_cons,List.map_nil,Part.v,e5,e7,e10,e11]
    have hPSf:PS.flatMap Part.ls=MB:=by
     rw[hPS,List.flatMap_append,HJ.out,<-HPS.out,e10]
     simp[List.flatMap]
    have hsum:idZ PS<=1000000000:=by
     unfold idZ
     rw[hPSf,HJ.out]
     simp only[List.length_append,e5,e7,e10]
     have h1:=HFL.out
     have h2:(zeZ dl).length=4:=rfl
     omega
    have hok:∀p∈PS,p.Ok w12:=fun p hp=>by
     rw[hPS]at hp
     rcases List.mem_append.1 hp with hp|hp
     ·exact rZ (rfr p hp) rfl
     ·rcases List.mem_cons.1 hp with rfl|hp
      ·rw[<-e5]at r5;exact rZ r5 rfl
      ·rcases List.mem_cons.1 hp with rfl|hp
       ·rw[<-e7]at r7;exact rZ r7 rfl
       ·rcases List.mem_cons.1 hp with rfl|hp
        ·rw[<-e10]at r10;exact rZ r10 rfl
        ·rw[List.mem_singleton.1 hp];exact rZ r11 rfl
    have hgl12:=(World.ownsRow.lt hown12 g12 rfl).2
    have E12:=hid (mxZ w12 g12 (k+3+1) c12 PS hPSl (by omega) hsum hok hgl12 (fun i hi=>by
     rw[(Lz.own_cells hown12 (by rw[<-hPSl];exact hi)).1]
     have h:(PS.map Part.v)[i]? =some PS[i].v:=by rw[List.getElem?_map,List.getElem?_eq_getElem hi];rfl
     rw[hPSv]at h
     exact h))
    rw[hPSf]at E12
    have HB12:=hid hB12
    clear hq1 r5 r7 r10 r11 rfr e5 e7 e10 e11 hPS hPSl hPSv hPSf hsum hok hgl12 hown12 hg12 hat12 hB12 HPR11 HFR11 HO511 HO711 HO1011 HO11
    refine E12.out.mono ?_
    rintro e w13 ⟨v13,rfl,ho13,hb13⟩
    have HO13:=hid (nZ ho13 (Nat.le_trans HBW3.out.size HB12.out.size))
    have HB13:Hid (Below w.heap.size w w13):=iZ hb13 (Nat.le_trans HBW3.out.size HB12.out.size) (HBW3.out.trans (HB12.out.mono HBW3.out.size))
    clear ho13 hb13 E12
    go_wp2_with fail
    go_ret2
    exact⟨v13,rfl,HO13.out,HB13.out⟩
end Go.Proofs.YtnpglnpfmeeboaaGreatDoor.Body
namespace Go.Proofs.YtnpglnpfmeeboaaGreatDoor.Body
open Go.RowKit Mem Go.Proofs.YtnpglnpfmeeboaaGreatDoor.Own Canon NumPut Crc
open Recs Opts Idx
open Go.Proofs.YtnpglnpfmeeboaaGreatDoor.Block (rZ)
theorem dvZ(w:World)(ht:TabAt w):Calls Tryz.prog 9 #[] w fun e w'=>e= .returned (.bool true)/\Below w.heap.size w w':=by
 have hix:(ixR exB []).length<=99000:=(tgZb (o:=exB) (l:= []) (n:=0) rfl (by omega) (by simp[nkZ])).2 (by decide)
 have D1:=hid (xgZb w exB none 0 0 [] (by decide) rfl (by omega) (Nat.le_refl _) (by simp) (by decide) (by simp[mgZ]) (by simp[ubZ]) hix ht (by simp[pdZ,ndZ,yeZ]) (Nat.le_refl _) Row.zero)
 unfold toZ at D1
 rw[yiZb]at D1
 unfold Opt.val exB at D1
 simp only at D1
 have D2:Hid (∀wx:World,Calls Tryz.prog 35 #[.int .i64 0, .slice none 0 0, .slice none 0 0, .slice none 0 0, .slice (some ⟨wx.heap.size,0,none⟩) 1 1] (wx.alloc (.cells #[.int .u8 0] 5)) fun e w'=>∃v,e= .returned v/\w'.ownsRow (wx.alloc (.cells #[.int .u8 0] 5)).heap.size 5 1 v (peZ 0 [] [] [] [0]).length (cZ .u8 (peZ 0 [] [] [] [0]))/\Below (wx.alloc (.cells #[.int .u8 0] 5)).heap.size (wx.alloc (.cells #[.int .u8 0] 5)) w'):=fun wx=>by
  have hk3:Blk (wx.alloc (.cells #[.int .u8 0] 5)) wx.heap.size 5 #[.int .u8 0]:=Blk.made _ _ _
  exact twZ (wx.alloc (.cells #[.int .u8 0] 5)) 0 0 0 0 0 0 1 none none none (some ⟨wx.heap.size,0,none⟩) [] [] [] [0] (by omega) (by omega) rfl rfl (by simp) (by simp) (by simp) (by simp) (by simp) (by simp) (World.ownsRow_nil _ _ _ _) (fun p hp=>by cases hp) Row.zero ⟨Row.zero,fun _=>⟨rfl,rfl⟩⟩ ⟨Row.of_blk hk3 hk3.lt fun i j hi hj=>by
   obtain rfl:j=0:=by omega
   match i,hi with
   |0,_=>rfl,fun e=>by cases e⟩
 have hF8:∀x∈peZ 0 [] [] [] [0],x<=255:=wgZb (by simp) (by simp) (by simp)
 obtain⟨L,hL⟩:∃L,L=(peZ 0 [] [] [] [0]).length:=⟨_,rfl⟩
 rw[<-hL]at D1 D2
 generalize peZ 0 [] [] [] [0]=F at *
 have DS:Hid (∀ (wx wa:World) Ax cx Ay cy,wa.ownsRow w.heap.size 5 1 (.slice Ax L cx) L (cZ .u8 F)->Below wa.heap.size wa wx->(∃b,wx.ownsRow b 5 1 (.slice Ay L cy) L (cZ .u8 F))->Calls Tryz.prog 15 #[.slice Ax L cx, .slice Ay L cy] wx fun e w'=>e= .returned (.bool true)/\wx=w'):=fun wx wa Ax cx Ay cy hx hb ⟨b,hy⟩=>by
  have P:=(rZ hx hL.symm).step hb
  have Q:=rZ hy hL.symm
  have p1:=P.row
  have q1:=Q.row
  simp only[<-hL]at p1 q1
  refine(Huff.ykZ wx Ax Ay L L cx cy F F hL.symm hL.symm (fun e=>hL.trans (P.nil e).1) (fun e=>hL.trans (Q.nil e).1) hF8 hF8 p1 q1).mono ?_
  rintro e w' ⟨rfl,rfl⟩
  exact⟨by simp,rfl⟩
 clear hF8 ht hix hL
 go_enter Tryz.func9,Tryz.ntmps9
 go_wp2_with fail
 refine D1.out.mono ?_
 rintro e w1 ⟨v1,rfl,ho1,hb1⟩
 obtain⟨A1,c1,rfl⟩:=aZ ho1
 have HO1:=hid ho1
 have HB1:=hid hb1
 have E2:=hid (D2.out w1)
 clear ho1 hb1 D1 D2
 go_wp2_with fail
 refine E2.out.mono ?_
 rintro e w2 ⟨v2,rfl,ho2,hb2⟩
 obtain⟨A2,c2,rfl⟩:=aZ ho2
 have HB2:Hid (Below w1.heap.size w1 w2):=eZ hb2 (bZ (Below.refl _ _))
 have E3:=hid (DS.out w2 w1 A1 c1 A2 c2 HO1.out HB2.out ⟨_,ho2⟩)
 clear ho2 hb2 E2 DS HO1
 go_wp2_with fail
 refine E3.out.mono ?_
 rintro e w3 ⟨rfl,rfl⟩
 go_wp2_with fail
 go_ret
 exact⟨rfl,eZ HB2.out HB1.out⟩
end Go.Proofs.YtnpglnpfmeeboaaGreatDoor.Body
