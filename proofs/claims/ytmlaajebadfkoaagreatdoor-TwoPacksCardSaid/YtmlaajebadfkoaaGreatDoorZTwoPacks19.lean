/- The walks of package toks' Count and of the reference's. Rows of token -/
import Derived.Test.YtmlaajebadfkoaaGreatDoorZTwoPacks18
import Derived.Test.YtmlaajebadfkoaaGreatDoorZTwoPacks11
import Derived.Test.YtmlaajebadfkoaaGreatDoorZTwoPacks1
import Derived.Deep.RegionWith
import Derived.Deep.DeepCutAuto
import Derived.Laws.MakeOwn
namespace Go.Proofs.YtmlaajebadfkoaaGreatDoor end Go.Proofs.YtmlaajebadfkoaaGreatDoor open Go.Proofs.YtmlaajebadfkoaaGreatDoor
open Go.Lib (hid)
set_option maxHeartbeats 400000
set_option maxRecDepth 100000
namespace Go.Proofs.YtmlaajebadfkoaaGreatDoor.Toks
open Go.RowKit Mem
theorem nmZb:(Tryz.prog.info? 142).map (fun i=>(i.zero,i.size,i.bytes))=some (some (.int .u32 0),1,4):=by kernel_rfl
def qqZ(n:Nat):Array Value:=madeCells #[.int .u32 0] n
theorem apZ(n:Nat)(hn:n<=65536)(w:World):(Instr.makeSlice 288 (.int .i64 (n:Int)) (.int .i64 (n:Int))).run Tryz.prog w=
 .ok (.slice (some ⟨w.heap.size,0,none⟩) n n) (w.alloc (.cells (qqZ n) 142)):=by
 obtain⟨i0,hi,hz0,hz1,hz2⟩:=info_parts nmZb
 have h:=run_make (P:=Tryz.prog) w 288 142 i0 (.int .u32 0) Tryz.underlying288 hi hz0 .i64 .i64 (n:Int) (n:Int) (by omega) (Int.le_refl _) (by rw[hz2];omega) (by omega)
 simp only[Int.toNat_natCast]at h
 simpa[hz1,Value.cells,qqZ]using h
theorem trZ(n:Nat):qqZ n=ints .u32 (List.replicate n 0):=by
 unfold qqZ ints madeCells
 apply Array.ext'
 apply List.ext_getElem
 ·simp
 ·intro i h1 h2
  simp[Nat.mod_one]
theorem piZ{l:List Int}{i:Nat}{x:Int}(h:x=l.getD i 0):bump l i=l.set i (x+1):=by rw[h];rfl
def tkd:Tk:=⟨0,0,0⟩
def ljZ(ts:List Tk):Nat->Nat->Value:=fun i j=>match j with
 |0=> .int .u8 (ts.getD i tkd).lit
 |1=> .int .i64 (ts.getD i tkd).len
 |_=> .int .i64 (ts.getD i tkd).dist
def CountPost(ts:List Tk)(w:World)(e:Ending)(w':World):Prop:=
 Below w.heap.size w w'/\
 ((jcZ ts=true/\∃gs gf:Nat,e= .returned (.tuple #[.slice (some ⟨gs,0,none⟩) 265 265, .slice (some ⟨gf,0,none⟩) 12 12, .int .i64 0])/\
    Blk w' gs 142 (ints .u32 (symsOf ts))/\Blk w' gf 142 (ints .u32 (lqZ ts))/\w.heap.size<=gs/\w.heap.size<=gf)∨
  (jcZ ts=false/\e= .returned (.tuple #[.slice none 0 0, .slice none 0 0, .int .i64 7])))
theorem bpZ(w:World)(A:Option Addr)(n c:Nat)(ts:List Tk)(hn:ts.length=n)(hb:n<=32768)(hlit:∀t∈ts,0<=t.lit/\t.lit<=255)
 (hrow:Row w w.heap.size A n 3 (ljZ ts)):
 Calls Tryz.prog 236 #[.slice A n c] w (CountPost ts w):=by
 have m1:=fun w=>apZ 265 (by omega) w
 have m2:=fun w=>apZ 12 (by omega) w
 simp only[show((265:Nat):Int)=265 from rfl]at m1
 simp only[show((12:Nat):Int)=12 from rfl]at m2
 go_enter Tryz.func236,Tryz.ntmps236
 go_upto_region 1 with fail
 go_cut [5,6] (fun s5 s6 wx=>∃gs gf:Nat,s5= .slice (some ⟨gs,0,none⟩) 265 265/\s6= .slice (some ⟨gf,0,none⟩) 12 12/\
  Blk wx gs 142 (qqZ 265)/\Blk wx gf 142 (qqZ 12)/\gs≠gf/\w.heap.size<=gs/\w.heap.size<=gf/\Below w.heap.size w wx)
 case first=>
  go_region
  all_goals go_wp2_with fail
  ·go_meet
   exact⟨_,_,rfl,rfl,((Blk.made _ _ _).alloc _).drew,(Blk.made_at _ _ _ (by simp)).drew,by simp,by simp,by simp,by(repeat(first|(with_reducible first|exact Below.refl _ _|assumption|refine Below.drew ?_|refine below_drewN ?_ _|refine aZ ?_|refine cZ (by assumption) ?_)|((with_reducible first|refine jZ ?_ ?_|refine eZ ?_ ?_|refine gZ (by assumption) ?_ ?_);(focus(first|(simp;done)|(simp;omega)|omega|(simp at *;omega))))))⟩
  ·go_meet
   exact⟨_,_,rfl,rfl,(Blk.made_at _ _ _ (by simp)).drew,((Blk.made _ _ _).alloc _).drew,by simp,by simp,by simp,by(repeat(first|(with_reducible first|exact Below.refl _ _|assumption|refine Below.drew ?_|refine below_drewN ?_ _|refine aZ ?_|refine cZ (by assumption) ?_)|((with_reducible first|refine jZ ?_ ?_|refine eZ ?_ ?_|refine gZ (by assumption) ?_ ?_);(focus(first|(simp;done)|(simp;omega)|omega|(simp at *;omega))))))⟩
 case rest=>
  obtain⟨gs,gf,rfl,rfl,bs,bf,hne,hgs,hgf,hbel⟩:=hcut
  go_wp2_with fail
  go_loopw [15] (fun i wr=>∃k:Nat,k<=n/\i= .int .i64 k/\Blk wr gs 142 (ints .u32 (udZ (ts.take k)).1)/\Blk wr gf 142 (ints .u32 (udZ (ts.take k)).2)/\
   jcZ (ts.take k)=true/\Below w.heap.size w wr)
   (fun i _=>n-(intOf i).toNat)
  case atStart=>exact⟨0,by omega,rfl,by rw[trZ]at bs;exact bs,by rw[trZ]at bf;exact bf,rfl,hbel⟩
  case round=>
   obtain⟨k,hk,rfl,rs,rf,rok,rbel⟩:=hrel
   have ROK:=hid rok
   clear rok m1 m2 bs bf hbel
   by_cases hlt:k<n
   ·have hkl:k<ts.length:=by omega
    have htm:ts[k]∈ts:=List.getElem_mem hkl
    obtain⟨b,off,rfl,hbb,hcell⟩:=hrow (by omega)
    have hsplit:=fun w=>zoZ ts[k] w (hlit _ htm).1 (hlit _ htm).2
    have e0:=hcell k 0 hlt (by omega)
    have e1:=hcell k 1 hlt (by omega)
    have e2:=hcell k 2 hlt (by omega)
    simp only[ljZ,List.getD_eq_getElem?_getD,List.getElem?_eq_getElem hkl,Option.getD_some,Nat.add_zero,<-Nat.add_assoc]at e0 e1 e2
    have c0:=(rbel.cell (p:=⟨b,off+k*3,none⟩) hbb).trans e0
    have c1:=(rbel.cell (p:=⟨b,off+k*3+1,none⟩) hbb).trans e1
    have c2:=(rbel.cell (p:=⟨b,off+k*3+2,none⟩) hbb).trans e2
    clear e0 e1 e2 hcell
    have hsn:=vxZ ts k hkl
    have hin:=ufZ (ts.take k)
    have hln:=tfZ (ts.take k)
    have hal:jcZ (ts.take (k+1))=(jcZ (ts.take k)&&dcZ ts[k].lit ts[k].len ts[k].dist):=by
     unfold jcZ;rw[List.take_succ_eq_append_getElem hkl,List.all_append];simp
    have hall:dcZ ts[k].lit ts[k].len ts[k].dist=false->jcZ ts=false:=by
     intro h
     unfold jcZ
     rw[List.all_eq_false]
     exact⟨ts[k],htm,by simp[h]⟩
    rw[ROK.out,Bool.true_and]at hal
    have hlk:(ts.take k).length=k:=by simp;omega
    rw[hlk]at hin
    have hlitk:=hlit _ htm
    generalize hcn:udZ (ts.take k)=cn at *
    obtain⟨ls,lf⟩:=cn
    generalize ts[k]=t at *
    simp only at rs rf hin hln
    have hsz:=rbel.size
    have hgs2:=rs.lt
    have hgf2:=rf.lt
    cases hm:dcZ t.lit t.len t.dist
    ·have HA:=hid (hall hm)
     obtain⟨hs1,hs2⟩:=yoZ hm
     rw[hs1,hs2]at hsplit
     have HS:=hid hsplit
     clear hsplit hsn hal hall hin hln hs1 hs2 hm hlk hcn htm hrow hn hlitk
     obtain⟨t1,t2,t3⟩:=t
     simp only[Pc.val_mk,Tk.val_mk]at HS c0 c1 c2
     go_wp2_with fail
     refine(HS.out _).mono ?_
     rintro e w2 ⟨rfl,hb2⟩
     go_wp2_with fail
     go_ret3
     refine⟨?_, .inr ⟨HA.out,rfl⟩⟩
     (repeat(first|(with_reducible first|exact Below.refl _ _|assumption|refine Below.drew ?_|refine below_drewN ?_ _|refine aZ ?_|refine cZ (by assumption) ?_)|((with_reducible first|refine jZ ?_ ?_|refine eZ ?_ ?_|refine gZ (by assumption) ?_ ?_);(focus(first|(simp;done)|(simp;omega)|omega|(simp at *;omega))))))
    ·obtain⟨S,D,L,F,hsp,hS,hD,hl0,hl1,hse⟩:=nwZ t hlitk.1 hlitk.2 hm
     rw[hsp,hse]at hsplit
     have HS:=hid hsplit
     rw[hm]at hal
     have HAL:=hid hal
     have hstep:udZ (ts.take (k+1))=(bump ls S,if t.len=0 then lf else bump lf D):=by
      rw[hsn]
      simp only[obZ,hsp,Int.toNat_natCast]
     have HST:=hid hstep
     have hin1:=hin.1 S
     have hin2:=hin.2 D
     obtain⟨x,hx⟩:∃x,x=ls.getD S 0:=⟨_,rfl⟩
     obtain⟨y,hy⟩:∃y,y=lf.getD D 0:=⟨_,rfl⟩
     rw[<-hx]at hin1
     rw[<-hy]at hin2
     have HX:=hid hx
     have HY:=hid hy
     have HLN:=hid hln
     clear hsplit hsn hal hall hm hlk hcn htm hrow hn hlitk hsp hse hstep hx hy hin hln
     obtain⟨t1,t2,t3⟩:=t
     simp only[Pc.val_mk,Tk.val_mk]at HS c0 c1 c2 hl0 hl1 HST
     by_cases hl:t2=0
     ·have hS2:=hl0 hl
      clear hl0 hl1
      subst hl
      go_wp2_with fail
      refine(HS.out _).mono ?_
      rintro e w2 ⟨rfl,hb2⟩
      have z2:=hb2.size
      simp at z2
      have bs2:Blk w2 gs 142 (ints .u32 ls):=(rs.alloc _).step hb2
      have bf2:Blk w2 gf 142 (ints .u32 lf):=(rf.alloc _).step hb2
      have cs:=bs2.cell S
      rw[mgZ _ _ _ (by rw[HLN.out.1];exact hS),<-HX.out]at cs
      have fs:=bs2.frozen S
      have gs2:=bs2.lt
      have gf2:=bf2.lt
      go_wp2_with fail
      go_roundw
      case rel=>
       go_light
       refine⟨k+1,by omega,by go_num,?_,?_,HAL.out,?_⟩
       ·rw[HST.out]
        have:=(bs2.set S (.int .u32 (x+1))).alloc (.cells #[.int .i64 ↑S, .int .i64 L, .int .i64 ↑D, .int .i64 F] 239)
        rw[ints_set]at this
        show Blk _ gs _ (ints .u32 (bump ls S))
        rw[piZ HX.out]
        exact this
       ·rw[HST.out]
        exact((bf2.far (p:=⟨gs,S,none⟩) (Ne.symm hne) _).alloc _)
       ·(repeat(first|(with_reducible first|exact Below.refl _ _|assumption|refine Below.drew ?_|refine below_drewN ?_ _|refine aZ ?_|refine cZ (by assumption) ?_)|((with_reducible first|refine jZ ?_ ?_|refine eZ ?_ ?_|refine gZ (by assumption) ?_ ?_);(focus(first|(simp;done)|(simp;omega)|omega|(simp at *;omega))))))
      case measure=>go_light;simp[intOf];omega
     ·obtain⟨hS2,hL2⟩:=hl1 hl
      clear hl0 hl1
      go_wp2_with fail
      refine(HS.out _).mono ?_
      rintro e w2 ⟨rfl,hb2⟩
      have z2:=hb2.size
      simp at z2
      have bs2:Blk w2 gs 142 (ints .u32 ls):=(rs.alloc _).step hb2
      have bf2:Blk w2 gf 142 (ints .u32 lf):=(rf.alloc _).step hb2
      have cs:=bs2.cell S
      rw[mgZ _ _ _ (by rw[HLN.out.1];exact hS),<-HX.out]at cs
      have fs:=bs2.frozen S
      have bf3:=bf2.far (p:=⟨gs,S,none⟩) (Ne.symm hne) (.int .u32 (x+1))
      have cf:=bf3.cell D
      rw[mgZ _ _ _ (by rw[HLN.out.2];exact hD),<-HY.out]at cf
      have ff:=bf3.frozen D
      have gs2:=bs2.lt
      have gf2:=bf2.lt
      go_wp2_with fail
      go_roundw
      case rel=>
       go_light
       refine⟨k+1,by omega,by go_num,?_,?_,HAL.out,?_⟩
       ·rw[HST.out,if_neg hl]
        have:=((bs2.set S (.int .u32 (x+1))).far (p:=⟨gf,D,none⟩) hne (.int .u32 (y+1))).alloc (.cells #[.int .i64 ↑S, .int .i64 L, .int .i64 ↑D, .int .i64 F] 239)
        rw[ints_set]at this
        show Blk _ gs _ (ints .u32 (bump ls S))
        rw[piZ HX.out]
        exact this
       ·rw[HST.out,if_neg hl]
        have:=(bf3.set D (.int .u32 (y+1))).alloc (.cells #[.int .i64 ↑S, .int .i64 L, .int .i64 ↑D, .int .i64 F] 239)
        rw[ints_set]at this
        show Blk _ gf _ (ints .u32 (bump lf D))
        rw[piZ HY.out]
        exact this
       ·(repeat(first|(with_reducible first|exact Below.refl _ _|assumption|refine Below.drew ?_|refine below_drewN ?_ _|refine aZ ?_|refine cZ (by assumption) ?_)|((with_reducible first|refine jZ ?_ ?_|refine eZ ?_ ?_|refine gZ (by assumption) ?_ ?_);(focus(first|(simp;done)|(simp;omega)|omega|(simp at *;omega))))))
      case measure=>go_light;simp[intOf];omega
   ·obtain rfl:k=n:=by omega
    rw[List.take_of_length_le (by omega)]at rs rf ROK
    have hin:=(ufZ ts).1 256
    have hln:=tfZ ts
    obtain⟨x,hx⟩:∃x,x=(udZ ts).1.getD 256 0:=⟨_,rfl⟩
    rw[<-hx,hn]at hin
    have cs:=rs.cell 256
    rw[mgZ _ _ _ (by rw[hln.1];omega),<-hx]at cs
    have fs:=rs.frozen 256
    have HX:=hid hx
    clear hx hln hn hrow
    go_wp2_with fail
    go_ret3
    go_light
    refine⟨by(repeat(first|(with_reducible first|exact Below.refl _ _|assumption|refine Below.drew ?_|refine below_drewN ?_ _|refine aZ ?_|refine cZ (by assumption) ?_)|((with_reducible first|refine jZ ?_ ?_|refine eZ ?_ ?_|refine gZ (by assumption) ?_ ?_);(focus(first|(simp;done)|(simp;omega)|omega|(simp at *;omega)))))), .inl ⟨ROK.out,gs,gf,rfl,?_,?_,hgs,hgf⟩⟩
    ·have:=rs.set 256 (.int .u32 (x+1))
     rw[ints_set]at this
     unfold symsOf
     rw[piZ HX.out]
     exact this
    ·exact rf.far (p:=⟨gs,256,none⟩) (Ne.symm hne) _
theorem rqZ(w:World)(A:Option Addr)(n c:Nat)(ts:List Tk)(hn:ts.length=n)(hb:n<=32768)(hlit:∀t∈ts,0<=t.lit/\t.lit<=255)
 (hrow:Row w w.heap.size A n 3 (ljZ ts)):
 Calls Tryz.prog 246 #[.slice A n c] w (CountPost ts w):=by
 have m1:=fun w=>apZ 265 (by omega) w
 have m2:=fun w=>apZ 12 (by omega) w
 simp only[show((265:Nat):Int)=265 from rfl]at m1
 simp only[show((12:Nat):Int)=12 from rfl]at m2
 go_enter Tryz.func246,Tryz.ntmps246
 go_upto_region 1 with fail
 go_cut [5,6] (fun s5 s6 wx=>∃gs gf:Nat,s5= .slice (some ⟨gs,0,none⟩) 265 265/\s6= .slice (some ⟨gf,0,none⟩) 12 12/\
  Blk wx gs 142 (qqZ 265)/\Blk wx gf 142 (qqZ 12)/\gs≠gf/\w.heap.size<=gs/\w.heap.size<=gf/\Below w.heap.size w wx)
 case first=>
  go_region
  all_goals go_wp2_with fail
  ·go_meet
   exact⟨_,_,rfl,rfl,((Blk.made _ _ _).alloc _).drew,(Blk.made_at _ _ _ (by simp)).drew,by simp,by simp,by simp,by(repeat(first|(with_reducible first|exact Below.refl _ _|assumption|refine Below.drew ?_|refine below_drewN ?_ _|refine aZ ?_|refine cZ (by assumption) ?_)|((with_reducible first|refine jZ ?_ ?_|refine eZ ?_ ?_|refine gZ (by assumption) ?_ ?_);(focus(first|(simp;done)|(simp;omega)|omega|(simp at *;omega))))))⟩
  ·go_meet
   exact⟨_,_,rfl,rfl,(Blk.made_at _ _ _ (by simp)).drew,((Blk.made _ _ _).alloc _).drew,by simp,by simp,by simp,by(repeat(first|(with_reducible first|exact Below.refl _ _|assumption|refine Below.drew ?_|refine below_drewN ?_ _|refine aZ ?_|refine cZ (by assumption) ?_)|((with_reducible first|refine jZ ?_ ?_|refine eZ ?_ ?_|refine gZ (by assumption) ?_ ?_);(focus(first|(simp;done)|(simp;omega)|omega|(simp at *;omega))))))⟩
 case rest=>
  obtain⟨gs,gf,rfl,rfl,bs,bf,hne,hgs,hgf,hbel⟩:=hcut
  go_wp2_with fail
  go_loopw [7] (fun i wr=>∃k:Nat,k<=n/\i= .int .i64 k/\Blk wr gs 142 (ints .u32 (udZ (ts.take k)).1)/\Blk wr gf 142 (ints .u32 (udZ (ts.take k)).2)/\
   jcZ (ts.take k)=true/\Below w.heap.size w wr)
   (fun i _=>n-(intOf i).toNat)
  case atStart=>exact⟨0,by omega,rfl,by rw[trZ]at bs;exact bs,by rw[trZ]at bf;exact bf,rfl,hbel⟩
  case round=>
   obtain⟨k,hk,rfl,rs,rf,rok,rbel⟩:=hrel
   have ROK:=hid rok
   clear rok m1 m2 bs bf hbel
   by_cases hlt:k<n
   ·have hkl:k<ts.length:=by omega
    have htm:ts[k]∈ts:=List.getElem_mem hkl
    obtain⟨b,off,rfl,hbb,hcell⟩:=hrow (by omega)
    have hsplit:=fun w=>pqZ ts[k] w (hlit _ htm).1 (hlit _ htm).2
    have e0:=hcell k 0 hlt (by omega)
    have e1:=hcell k 1 hlt (by omega)
    have e2:=hcell k 2 hlt (by omega)
    simp only[ljZ,List.getD_eq_getElem?_getD,List.getElem?_eq_getElem hkl,Option.getD_some,Nat.add_zero,<-Nat.add_assoc]at e0 e1 e2
    have c0:=(rbel.cell (p:=⟨b,off+k*3,none⟩) hbb).trans e0
    have c1:=(rbel.cell (p:=⟨b,off+k*3+1,none⟩) hbb).trans e1
    have c2:=(rbel.cell (p:=⟨b,off+k*3+2,none⟩) hbb).trans e2
    clear e0 e1 e2 hcell
    have hsn:=vxZ ts k hkl
    have hin:=ufZ (ts.take k)
    have hln:=tfZ (ts.take k)
    have hal:jcZ (ts.take (k+1))=(jcZ (ts.take k)&&dcZ ts[k].lit ts[k].len ts[k].dist):=by
     unfold jcZ;rw[List.take_succ_eq_append_getElem hkl,List.all_append];simp
    have hall:dcZ ts[k].lit ts[k].len ts[k].dist=false->jcZ ts=false:=by
     intro h
     unfold jcZ
     rw[List.all_eq_false]
     exact⟨ts[k],htm,by simp[h]⟩
    rw[ROK.out,Bool.true_and]at hal
    have hlk:(ts.take k).length=k:=by simp;omega
    rw[hlk]at hin
    have hlitk:=hlit _ htm
    generalize hcn:udZ (ts.take k)=cn at *
    obtain⟨ls,lf⟩:=cn
    generalize ts[k]=t at *
    simp only at rs rf hin hln
    have hsz:=rbel.size
    have hgs2:=rs.lt
    have hgf2:=rf.lt
    cases hm:dcZ t.lit t.len t.dist
    ·have HA:=hid (hall hm)
     obtain⟨hs1,hs2⟩:=yoZ hm
     rw[hs1,hs2]at hsplit
     have HS:=hid hsplit
     clear hsplit hsn hal hall hin hln hs1 hs2 hm hlk hcn htm hrow hn hlitk
     obtain⟨t1,t2,t3⟩:=t
     simp only[Pc.val_mk,Tk.val_mk]at HS c0 c1 c2
     go_wp2_with fail
     refine(HS.out _).mono ?_
     rintro e w2 ⟨rfl,hb2⟩
     go_wp2_with fail
     go_ret3
     refine⟨?_, .inr ⟨HA.out,rfl⟩⟩
     (repeat(first|(with_reducible first|exact Below.refl _ _|assumption|refine Below.drew ?_|refine below_drewN ?_ _|refine aZ ?_|refine cZ (by assumption) ?_)|((with_reducible first|refine jZ ?_ ?_|refine eZ ?_ ?_|refine gZ (by assumption) ?_ ?_);(focus(first|(simp;done)|(simp;omega)|omega|(simp at *;omega))))))
    ·obtain⟨S,D,L,F,hsp,hS,hD,hl0,hl1,hse⟩:=nwZ t hlitk.1 hlitk.2 hm
     rw[hsp,hse]at hsplit
     have HS:=hid hsplit
     rw[hm]at hal
     have HAL:=hid hal
     have hstep:udZ (ts.take (k+1))=(bump ls S,if t.len=0 then lf else bump lf D):=by
      rw[hsn]
      simp only[obZ,hsp,Int.toNat_natCast]
     have HST:=hid hstep
     have hin1:=hin.1 S
     have hin2:=hin.2 D
     obtain⟨x,hx⟩:∃x,x=ls.getD S 0:=⟨_,rfl⟩
     obtain⟨y,hy⟩:∃y,y=lf.getD D 0:=⟨_,rfl⟩
     rw[<-hx]at hin1
     rw[<-hy]at hin2
     have HX:=hid hx
     have HY:=hid hy
     have HLN:=hid hln
     clear hsplit hsn hal hall hm hlk hcn htm hrow hn hlitk hsp hse hstep hx hy hin hln
     obtain⟨t1,t2,t3⟩:=t
     simp only[Pc.val_mk,Tk.val_mk]at HS c0 c1 c2 hl0 hl1 HST
     by_cases hl:t2=0
     ·have hS2:=hl0 hl
      clear hl0 hl1
      subst hl
      go_wp2_with fail
      refine(HS.out _).mono ?_
      rintro e w2 ⟨rfl,hb2⟩
      have z2:=hb2.size
      have d1:=(hb2.cell (p:=⟨b,off+k*3+1,none⟩) (by show b<_;omega)).trans c1
      have d2:b<w2.heap.size:=by omega
      have bs2:Blk w2 gs 142 (ints .u32 ls):=rs.step hb2
      have bf2:Blk w2 gf 142 (ints .u32 lf):=rf.step hb2
      have cs:=bs2.cell S
      rw[mgZ _ _ _ (by rw[HLN.out.1];exact hS),<-HX.out]at cs
      have fs:=bs2.frozen S
      have gs2:=bs2.lt
      have gf2:=bf2.lt
      go_wp2_with fail
      go_roundw
      case rel=>
       go_light
       refine⟨k+1,by omega,by go_num,?_,?_,HAL.out,?_⟩
       ·rw[HST.out]
        have:=(bs2.set S (.int .u32 (x+1))).alloc (.cells #[.int .i64 ↑S, .int .i64 L, .int .i64 ↑D, .int .i64 F] 239)
        rw[ints_set]at this
        show Blk _ gs _ (ints .u32 (bump ls S))
        rw[piZ HX.out]
        exact this
       ·rw[HST.out]
        exact((bf2.far (p:=⟨gs,S,none⟩) (Ne.symm hne) _).alloc _)
       ·(repeat(first|(with_reducible first|exact Below.refl _ _|assumption|refine Below.drew ?_|refine below_drewN ?_ _|refine aZ ?_|refine cZ (by assumption) ?_)|((with_reducible first|refine jZ ?_ ?_|refine eZ ?_ ?_|refine gZ (by assumption) ?_ ?_);(focus(first|(simp;done)|(simp;omega)|omega|(simp at *;omega))))))
      case measure=>go_light;simp[intOf];omega
     ·obtain⟨hS2,hL2⟩:=hl1 hl
      clear hl0 hl1
      go_wp2_with fail
      refine(HS.out _).mono ?_
      rintro e w2 ⟨rfl,hb2⟩
      have z2:=hb2.size
      have d1:=(hb2.cell (p:=⟨b,off+k*3+1,none⟩) (by show b<_;omega)).trans c1
      have d2:b<w2.heap.size:=by omega
      have bs2:Blk w2 gs 142 (ints .u32 ls):=rs.step hb2
      have bf2:Blk w2 gf 142 (ints .u32 lf):=rf.step hb2
      have cs:=bs2.cell S
      rw[mgZ _ _ _ (by rw[HLN.out.1];exact hS),<-HX.out]at cs
      have fs:=bs2.frozen S
      have bf3:=bf2.far (p:=⟨gs,S,none⟩) (Ne.symm hne) (.int .u32 (x+1))
      have cf:=bf3.cell D
      rw[mgZ _ _ _ (by rw[HLN.out.2];exact hD),<-HY.out]at cf
      have ff:=bf3.frozen D
      have gs2:=bs2.lt
      have gf2:=bf2.lt
      go_wp2_with fail
      go_roundw
      case rel=>
       go_light
       refine⟨k+1,by omega,by go_num,?_,?_,HAL.out,?_⟩
       ·rw[HST.out,if_neg hl]
        have:=((bs2.set S (.int .u32 (x+1))).far (p:=⟨gf,D,none⟩) hne (.int .u32 (y+1))).alloc (.cells #[.int .i64 ↑S, .int .i64 L, .int .i64 ↑D, .int .i64 F] 239)
        rw[ints_set]at this
        show Blk _ gs _ (ints .u32 (bump ls S))
        rw[piZ HX.out]
        exact this
       ·rw[HST.out,if_neg hl]
        have:=(bf3.set D (.int .u32 (y+1))).alloc (.cells #[.int .i64 ↑S, .int .i64 L, .int .i64 ↑D, .int .i64 F] 239)
        rw[ints_set]at this
        show Blk _ gf _ (ints .u32 (bump lf D))
        rw[piZ HY.out]
        exact this
       ·(repeat(first|(with_reducible first|exact Below.refl _ _|assumption|refine Below.drew ?_|refine below_drewN ?_ _|refine aZ ?_|refine cZ (by assumption) ?_)|((with_reducible first|refine jZ ?_ ?_|refine eZ ?_ ?_|refine gZ (by assumption) ?_ ?_);(focus(first|(simp;done)|(simp;omega)|omega|(simp at *;omega))))))
      case measure=>go_light;simp[intOf];omega
   ·obtain rfl:k=n:=by omega
    rw[List.take_of_length_le (by omega)]at rs rf ROK
    have hin:=(ufZ ts).1 256
    have hln:=tfZ ts
    obtain⟨x,hx⟩:∃x,x=(udZ ts).1.getD 256 0:=⟨_,rfl⟩
    rw[<-hx,hn]at hin
    have cs:=rs.cell 256
    rw[mgZ _ _ _ (by rw[hln.1];omega),<-hx]at cs
    have fs:=rs.frozen 256
    have HX:=hid hx
    clear hx hln hn hrow
    go_wp2_with fail
    go_ret3
    go_light
    refine⟨by(repeat(first|(with_reducible first|exact Below.refl _ _|assumption|refine Below.drew ?_|refine below_drewN ?_ _|refine aZ ?_|refine cZ (by assumption) ?_)|((with_reducible first|refine jZ ?_ ?_|refine eZ ?_ ?_|refine gZ (by assumption) ?_ ?_);(focus(first|(simp;done)|(simp;omega)|omega|(simp at *;omega)))))), .inl ⟨ROK.out,gs,gf,rfl,?_,?_,hgs,hgf⟩⟩
    ·have:=rs.set 256 (.int .u32 (x+1))
     rw[ints_set]at this
     unfold symsOf
     rw[piZ HX.out]
     exact this
    ·exact rf.far (p:=⟨gs,256,none⟩) (Ne.symm hne) _
end Go.Proofs.YtmlaajebadfkoaaGreatDoor.Toks
namespace Go.Proofs.YtmlaajebadfkoaaGreatDoor.Huff
open Go.RowKit Mem
open Go.Proofs.YtmlaajebadfkoaaGreatDoor.Toks (Tk)
def xeZ(ts:List Tk):List Value:=ts.flatMap fun t=> [.int .u8 t.lit, .int .i64 t.len, .int .i64 t.dist]
theorem igZ(ts:List Tk)(t:Tk):xeZ (ts++ [t])=xeZ ts++ [.int .u8 t.lit, .int .i64 t.len, .int .i64 t.dist]:=by simp[xeZ]
theorem wmZ:(Tryz.prog.info? 241).map (fun i=>(i.zero,i.size,i.bytes))=some (some (.agg #[.int .u8 0, .int .i64 0, .int .i64 0]),3,24):=by kernel_rfl
def tkd:Tk:=⟨0,0,0⟩
def tkF(ts:List Tk):Nat->Nat->Value:=fun i j=>match j with
 |0=> .int .u8 (ts.getD i tkd).lit
 |1=> .int .i64 (ts.getD i tkd).len
 |_=> .int .i64 (ts.getD i tkd).dist
theorem utZ:∀ (ts:List Tk) (i j:Nat),i<ts.length->j<3->(xeZ ts)[i*3+j]? =some (tkF ts i j)
 | [],i,j,h,_=>by simp at h
 |t :: ts,0,j,_,hj=>by
  obtain rfl|rfl|rfl:j=0∨j=1∨j=2:=by omega
  all_goals rfl
 |t :: ts,i+1,j,h,hj=>by
  have:=utZ ts i j (by simpa using h) hj
  show(_ :: _ :: _ :: xeZ ts)[(i+1)*3+j]? =_
  rw[show(i+1)*3+j=(i*3+j)+1+1+1 by omega,List.getElem?_cons_succ,List.getElem?_cons_succ,List.getElem?_cons_succ,this]
  rfl
end Go.Proofs.YtmlaajebadfkoaaGreatDoor.Huff
namespace Go.Proofs.YtmlaajebadfkoaaGreatDoor.Block
open Go.RowKit Mem
open Go.Proofs.YtmlaajebadfkoaaGreatDoor.Huff (xeZ utZ tkF)
open Go.Proofs.YtmlaajebadfkoaaGreatDoor.Toks (Tk)
theorem spZb(ts:List Tk)(i j:Nat):tkF ts i j=Toks.ljZ ts i j:=by
 match j with
 |0=>rfl
 |1=>rfl
 |_+2=>rfl
theorem xaZb{w:World}{base c:Nat}{A:Option Addr}{ts:List Tk}(h:w.ownsRow base 241 3 (.slice A ts.length c) ts.length (xeZ ts)):Row w w.heap.size A ts.length 3 (Toks.ljZ ts):=
 Row.of_own h rfl fun i j hi hj=>by rw[<-spZb ts i j];exact utZ ts i j hi hj
end Go.Proofs.YtmlaajebadfkoaaGreatDoor.Block
