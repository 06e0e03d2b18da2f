/- The index of a log: the walk of post.Build. Plain: the bytes of an ind -/
import Derived.Test.YtmlaajebadfkoaaGreatDoorZTwoPacks30
import Derived.Test.YtmlaajebadfkoaaGreatDoorZTwoPacks28
import Derived.Test.YtmlaajebadfkoaaGreatDoorZTwoPacks16
import Derived.Test.YtmlaajebadfkoaaGreatDoorZTwoPacks29
import Derived.Test.YtmlaajebadfkoaaGreatDoorZTwoPacks15
import Derived.Deep.RegionHeld3
namespace Go.Proofs.YtmlaajebadfkoaaGreatDoor end Go.Proofs.YtmlaajebadfkoaaGreatDoor open Go.Proofs.YtmlaajebadfkoaaGreatDoor
open Go.Lib (hid)
set_option maxHeartbeats 4000000
set_option maxRecDepth 100000
namespace Go.Proofs.YtmlaajebadfkoaaGreatDoor.Idx
open Go.RowKit Go.Maps Mem Own Canon Sift
open Recs Go.Proofs.YtmlaajebadfkoaaGreatDoor
def oZ(r:Rec):List Str:=eiZ r.text.data.toList r.source.data.toList
structure IxAt (w:World) (base:Nat) (vT vL:Value) (vals:List Value) (ts:List Str) (ls:List (List Nat)):Prop where
 t:w.ownsRow base 9 1 vT ts.length (abZ ts)
 l:w.ownsRow base 38 1 vL ls.length vals
 r:∀ (i:Nat) v ids,vals[i]? =some v->ls[i]? =some ids->w.ownsRow base 3 1 v ids.length (dZ .i64 ids)
def ioZ(ts:List (List Str))(w:World)(e:Ending)(w':World):Prop:=
 ∃vT vL vals,e= .returned (.agg #[vT,vL])/\IxAt w' w.heap.size vT vL vals (ibZ ts) ((ibZ ts).map (ocZ ts))/\Below w.heap.size w w'
theorem bzZ:(Tryz.prog.info? 3).map (fun i=>(i.zero,i.size,i.bytes))=some (some (.int .i64 0),1,8):=by kernel_rfl
theorem czZ:(Tryz.prog.info? 38).map (fun i=>(i.zero,i.size,i.bytes))=some (some (.slice none 0 0),1,24):=by kernel_rfl
theorem cwZ{r:Rec}{s:Str}(h:s∈oZ r):1<=s.length/\s.length<=25:=by
 unfold oZ at h
 rw[hjZb]at h
 unfold qoZ at h
 rcases List.mem_append.1 h with h|h
 ·have:=mnZ _ s h;omega
 ·obtain⟨x,hx,rfl⟩:=List.mem_map.1 h
  have:=mnZ _ x hx
  simp only[List.length_cons]
  omega
theorem hrZ(t s:List UInt8):(eiZ t s).length<=t.length+s.length:=by
 have h1:=elZ (qoZ t s) []
 have h2:=niZ t
 have h3:=niZ s
 unfold eiZ
 unfold qoZ at h1
 rw[List.length_append,List.length_map]at h1
 unfold qoZ
 simp only[List.length_nil]at h1
 omega
theorem bxZ(ts:List (List Str))(u:Str):(ocZ ts u).length<=ts.length:=by
 unfold ocZ
 exact Nat.le_trans (List.length_filter_le _ _) (by simp)
theorem yhZ{w w':World}{base base' s s' n n':Nat}{e e':TypeId}{v v':Value}{xs xs':List Value}(h:w.ownsRow base e s v n xs)(ho:w.ownsRow base' e' s' v' n' xs')(hne:e≠e')(hg:w.grownBy w' v'.ownBlock):w'.ownsRow base e s v n xs:=
 fZ h (fun y hy=>hg.block y (World.ownsRow.lt h y hy).2 (fun e=>by
  rcases qcZ h ho hne with h0|h0
  ·rw[h0]at hy;cases hy
  ·exact h0 (hy.trans e)))
section
variable {H:Type} {P:Program} {kt:TypeId} {R:Value->Option (DataW H×List MemPlace)} {w w':World} {mb m:Nat} {D:DataW H}
theorem gcZb{base s n:Nat}{e:TypeId}{v:Value}{xs:List Value}(hm:w.ownsMap P kt R mb m D)(ho:w.ownsRow base e s v n xs)(hg:w.grownBy w' (some mb)):w'.ownsRow base e s v n xs:=
 fZ ho fun b hb=>hg.block b (World.ownsRow.lt ho b hb).2 fun he=>by
  injection he with he
  subst he
  obtain⟨es,clock,h1,_⟩:=hm
  rcases ho.2 with ⟨hv,_⟩|⟨g',cap,cur,hv,_,h2,_⟩
  ·rw[hv]at hb;cases hb
  ·rw[hv]at hb
   have hgg:g'=b:=by simpa[Value.ownBlock]using hb
   rw[hgg,h1]at h2
   cases h2
theorem hcZb{g:Nat}{t:TypeId}{cs:Array Value}(hm:w.ownsMap P kt R mb m D)(h:Blk w g t cs)(hg:w.grownBy w' (some mb)):Blk w' g t cs:=
 h.grown hg fun he=>by
  injection he with he
  subst he
  obtain⟨es,clock,h1,_⟩:=hm
  have h2:w.heap[g]? =some (.cells cs t):=h
  rw[h1]at h2
  cases h2
end
def fkZ(ts:List (List Str))(T:List Str)(j:Nat)(s:Str):List Nat:=ocZ ts s++(if s∈T.take j then [ts.length]else [])
theorem hlZb(ts:List (List Str))(T:List Str):fkZ ts T 0=ocZ ts:=by funext s;simp[fkZ]
theorem koZb(ts:List (List Str))(T:List Str):fkZ ts T T.length=ocZ (ts++ [T]):=by
 funext s
 rw[jjZb]
 unfold fkZ
 rw[List.take_length]
 simp
theorem ilZb{ts:List (List Str)}{T:List Str}(hT:ydZ T){j:Nat}{t:Str}(h:T[j]? =some t):(fun s=>if s=t then fkZ ts T j s++ [ts.length]else fkZ ts T j s)=fkZ ts T (j+1):=by
 have hnot:t ∉ T.take j:=fun hm=>by
  obtain⟨i,hi,e⟩:=List.getElem_of_mem hm
  rw[List.length_take]at hi
  rw[List.getElem_take]at e
  obtain⟨hj,e2⟩:=List.getElem?_eq_some_iff.1 h
  have:=List.pairwise_iff_getElem.1 hT i j (by omega) hj (by omega)
  rw[e,e2]at this
  exact beZ t this
 funext s
 unfold fkZ
 rw[List.take_add_one,h]
 by_cases hs:s=t
 ·subst hs
  rw[if_pos rfl,if_neg hnot]
  simp
 ·rw[if_neg hs]
  simp[hs]
theorem cxZ(ts:List (List Str))(s:Str):s∈ibZ ts↔ocZ ts s≠ []:=by
 rw[haZb]
 unfold ocZ
 rw[ne_eq,List.filter_eq_nil_iff]
 constructor
 ·rintro⟨t,ht,hs⟩ h
  obtain⟨i,hi,rfl⟩:=List.getElem_of_mem ht
  have:=h i (List.mem_range.2 hi)
  rw[List.getD_eq_getElem?_getD,List.getElem?_eq_getElem hi]at this
  simp at this
  exact this hs
 ·intro h
  refine Decidable.byContradiction fun hn=>h fun i hi=> ?_
  rw[List.mem_range]at hi
  rw[List.getD_eq_getElem?_getD,List.getElem?_eq_getElem hi]
  simp only[Option.getD_some,List.contains_iff_mem]
  exact fun hm=>hn ⟨_,List.getElem_mem hi,hm⟩
theorem loZb{H:Type}{P:Program}{kt:TypeId}{R:Value->Option (DataW H×List MemPlace)}{w:World}{mb m:Nat}{D:DataW H}(h:w.ownsMap P kt R mb m D):Maps.size D<=m:=by
 obtain⟨es,clock,_,_,hs,rfl⟩:=h
 show(List.foldr DataW.insert [] _).length<=m
 rw[length_sorted,List.length_map]
 simpa using hs
structure St3 (w:World) (mb m base rb bo B2:Nat) (D:DataW Value) (I:Str->List Nat) (V:Str->Value) (vS vT vL:Value) (q nT nL:Nat) (SS:List Str):Prop where
 mi:MI w mb m base D I V
 res:Blk w rb 44 #[.slice none 0 0, .slice none 0 0]
 box:Blk w bo 44 #[vT,vL]
 ne:rb≠bo
 tt:w.ownsRow B2 9 1 vT nT (abZ (SS.take nT))
 ll:w.ownsRow B2 38 1 vL nL ((SS.take nL).map V)
 ss:w.ownsRow base 9 1 vS q (abZ SS)
 sg:∀g,vS.ownBlock=some g->g<B2
 b2:base<=B2
 bz:B2<=w.heap.size
section
variable {w w4:World} {mb m base rb bo B2 q nT nL:Nat} {D:DataW Value} {I:Str->List Nat} {V:Str->Value} {vS vT vL v4:Value} {SS:List Str} {o:Obj}
theorem St3.putT(h:St3 w mb m base rb bo B2 D I V vS vT vL q nT nL SS)(hg:(w.alloc o).grownBy w4 vT.ownBlock)(hown:w4.ownsRow B2 9 1 v4 (nT+1) (abZ (SS.take (nT+1)))):
 St3 (w4.setCell ⟨bo,0,none⟩ v4) mb m base rb bo B2 D I V vS v4 vL q (nT+1) nL SS:=by
 have hbx:Blk w4 bo 44 #[vT,vL]:=(h.box.alloc o).grown hg (fun e=>kZ h.tt h.box (by decide) e.symm)
 have hmap:w4.heap[mb]? =w.heap[mb]? :=(hg.block mb (by have:=h.mi.map.lt;simp;omega) (fun e=>hoZ h.mi h.tt e.symm rfl)).trans (Below.heap_alloc w o mb h.mi.map.lt)
 have hm4:MI w4 mb m base D I V:=(h.mi.step (aZ (Below.refl _ _) (o:=o))).kept (hg.block mb (by have:=h.mi.map.lt;simp;omega) (fun e=>hoZ h.mi h.tt e.symm rfl)) fun s b hb=>by
  refine hg.block b (by have:=(World.ownsRow.lt (h.mi.row s) b hb).2;simp;omega) fun e=> ?_
  rcases qcZ (h.mi.row s) h.tt (by decide)with h0|h0
  ·rw[h0]at hb;cases hb
  ·exact h0 (hb.trans e)
 have hmb:mb≠bo:=fun e=>by
  obtain⟨es,clock,h1,_⟩:=hm4.map
  have h2:w4.heap[bo]? =some (.cells #[vT,vL] 44):=hbx
  rw[e,h2]at h1
  cases h1
 refine⟨hm4.kept (Below.heap_setCell w4 _ _ mb hmb) fun s b hb=>Below.heap_setCell w4 _ _ b (fun e=>kZ (hm4.row s) hbx (by decide) (hb.trans (congrArg some e))),?_,?_,h.ne,?_,?_,?_,h.sg,h.b2,?_⟩
 ·exact((h.res.alloc o).grown hg (fun e=>kZ h.tt h.res (by decide) e.symm)).far h.ne _
 ·exact hbx.set 0 v4
 ·exact sbZ hown (kZ hown hbx (by decide)) _
 ·have:=yhZ (h.ll.alloc o) (h.tt.alloc o) (by decide) hg
  exact sbZ this (kZ this hbx (by decide)) _
 ·have:w4.ownsRow base 9 1 vS q (abZ SS):=fZ h.ss fun b hb=>(hg.block b (by have:=(World.ownsRow.lt h.ss b hb).2;simp;omega) (fun e=>by have h1:=h.sg b hb;have h2:=(World.ownsRow.lt h.tt b e.symm).1;omega)).trans (Below.heap_alloc w o b (World.ownsRow.lt h.ss b hb).2)
  exact sbZ this (kZ this hbx (by decide)) _
 ·have h1:=hg.size
  have h2:=h.bz
  simp at h1 ⊢
  omega
theorem St3.putL(h:St3 w mb m base rb bo B2 D I V vS vT vL q nT nL SS)(hg:(w.alloc o).grownBy w4 vL.ownBlock)(hown:w4.ownsRow B2 38 1 v4 (nL+1) ((SS.take (nL+1)).map V)):
 St3 (w4.setCell ⟨bo,1,none⟩ v4) mb m base rb bo B2 D I V vS vT v4 q nT (nL+1) SS:=by
 have hbx:Blk w4 bo 44 #[vT,vL]:=(h.box.alloc o).grown hg (fun e=>kZ h.ll h.box (by decide) e.symm)
 have hm4:MI w4 mb m base D I V:=(h.mi.step (aZ (Below.refl _ _) (o:=o))).kept (hg.block mb (by have:=h.mi.map.lt;simp;omega) (fun e=>hoZ h.mi h.ll e.symm rfl)) fun s b hb=>by
  refine hg.block b (by have:=(World.ownsRow.lt (h.mi.row s) b hb).2;simp;omega) fun e=> ?_
  rcases qcZ (h.mi.row s) h.ll (by decide)with h0|h0
  ·rw[h0]at hb;cases hb
  ·exact h0 (hb.trans e)
 have hmb:mb≠bo:=fun e=>by
  obtain⟨es,clock,h1,_⟩:=hm4.map
  have h2:w4.heap[bo]? =some (.cells #[vT,vL] 44):=hbx
  rw[e,h2]at h1
  cases h1
 refine⟨hm4.kept (Below.heap_setCell w4 _ _ mb hmb) fun s b hb=>Below.heap_setCell w4 _ _ b (fun e=>kZ (hm4.row s) hbx (by decide) (hb.trans (congrArg some e))),?_,?_,h.ne,?_,?_,?_,h.sg,h.b2,?_⟩
 ·exact((h.res.alloc o).grown hg (fun e=>kZ h.ll h.res (by decide) e.symm)).far h.ne _
 ·exact hbx.set 1 v4
 ·have:=yhZ (h.tt.alloc o) (h.ll.alloc o) (by decide) hg
  exact sbZ this (kZ this hbx (by decide)) _
 ·exact sbZ hown (kZ hown hbx (by decide)) _
 ·have:=yhZ (h.ss.alloc o) (h.ll.alloc o) (by decide) hg
  exact sbZ this (kZ this hbx (by decide)) _
 ·have h1:=hg.size
  have h2:=h.bz
  simp at h1 ⊢
  omega
end
theorem jlZb(w:World)(A:Option Addr)(n c:Nat)(l:List Rec)(hn:l.length=n)(hN:n<=20000)(hsz:∀r∈l,r.source.size<=50000/\r.text.size<=50000)(ha:Row w w.heap.size A n 4 (xbZ l)):
 Calls Tryz.prog 74 #[.slice A n c] w (ioZ (l.map oZ) w):=by
 obtain⟨j0,hj0,hy0,hy1,hy2⟩:=info_parts bzZ
 have HN:=hid hn
 have D1:Hid (∀wx r,r∈l->Calls Tryz.prog 130 #[.agg #[.int .u64 r.time, .int .u8 r.level, .string r.source, .string r.text]] wx (hgZ (oZ r) wx)):=fun wx r hr=>xgZb wx r.time r.level r.source r.text (hsz r hr).1 (hsz r hr).2
 have HTL:Hid (∀r∈l,(oZ r).length<=100000):=fun r hr=>by
  have:=hrZ r.text.data.toList r.source.data.toList
  have h1:=Lib.size_eq r.text
  have h2:=Lib.size_eq r.source
  have:=hsz r hr
  unfold oZ
  omega
 have hmm:=@run_makeMap Tryz.prog
 unfold hgZ at D1
 unfold ioZ
 clear hn hsz
 go_enter Tryz.func74,Tryz.ntmps74
 go_wp2_with fail
 have hbx:Blk (w.alloc (.cells #[.slice none 0 0, .slice none 0 0] 44)) w.heap.size 44 #[.slice none 0 0, .slice none 0 0]:=Blk.made _ _ _
 have hb0:Below w.heap.size w (w.alloc (.cells #[.slice none 0 0, .slice none 0 0] 44)):=aZ (Below.refl _ _)
 have hz0:(w.alloc (.cells #[.slice none 0 0, .slice none 0 0] 44)).heap.size=w.heap.size+1:=by simp
 generalize w.alloc (.cells #[.slice none 0 0, .slice none 0 0] 44)=w1 at *
 rw[<-hz0]
 have HM2:Hid (MI (w1.alloc (.map #[] 0)) w1.heap.size 0 w.heap.size (.map []) (fun _=> []) (fun _=> .slice none 0 0)):=MI.start w1 w.heap.size
 have HX2:=hid (hbx.alloc (.map #[] 0))
 have HB2:Hid (Below w.heap.size w (w1.alloc (.map #[] 0))):=aZ hb0
 obtain⟨mb,hmb⟩:∃mb,mb=w1.heap.size:=⟨_,rfl⟩
 rw[<-hmb]at HM2 ⊢
 have HMB:Hid (w.heap.size<=mb):=by show _<=_;rw[hmb];exact hb0.size
 generalize w1.alloc (.map #[] 0)=w2 at *
 clear hbx hb0 hz0 hmb hmm
 go_loopw [14] (fun iv wr=>∃ (k m:Nat) (D:DataW Value) (V:Str->Value),k<=n/\m<=100000*k/\iv= .int .i64 k/\Hid (MI wr mb m w.heap.size D (ocZ ((l.take k).map oZ)) V)/\Hid (Blk wr w.heap.size 44 #[.slice none 0 0, .slice none 0 0])/\Hid (Below w.heap.size w wr)) (fun iv _=>n-(intOf iv).toNat)
 case atStart=>exact⟨0,0, .map [],fun _=> .slice none 0 0,by omega,by omega,rfl,HM2.out,HX2.out,HB2.out⟩
 case round=>
  obtain⟨k,m,D,V,hk,hm,rfl,HM,HX,HB⟩:=hrel
  clear HM2 HX2 HB2
  obtain⟨w0,rfl⟩:∃w0:World,w0=wr:=⟨_,rfl⟩
  by_cases hlt:k<n
  ·have gk:decide ((k:Int)<(n:Int))=true:=by simp;omega
   have gk':decide (k<n)=true:=by simp;omega
   have x0:(0:Int)<=(k:Int):=by omega
   have x1:(k:Int)<(n:Int):=by omega
   obtain⟨b,off,r,rfl,hbb,hg,c0,c1,c2,c3⟩:=Row.rec (ha.below HB.out) HN.out hlt
   have hrl:=List.mem_of_getElem? hg
   have E1:=hid (fun wx=>D1.out wx r hrl)
   have hTL:=HTL.out r hrl
   have hTR:ydZ (oZ r):=gaZb _ _
   have hTS:∀s∈oZ r,1<=s.length/\s.length<=25:=fun s hs=>cwZ hs
   have hTK:(l.take (k+1)).map oZ=(l.take k).map oZ++ [oZ r]:=by rw[List.take_add_one,hg,List.map_append];rfl
   have hkl:((l.take k).map oZ).length=k:=by rw[List.length_map,List.length_take,HN.out];omega
   obtain⟨TS,hTSe⟩:∃TS,TS=(l.take k).map oZ:=⟨_,rfl⟩
   rw[<-hTSe]at hTK hkl HM
   have HTK:=hid hTK
   have HKL:=hid hkl
   have HTR:=hid hTR
   have HTS:=hid hTS
   clear hg hrl hTR hTS hTK hkl hTSe
   generalize oZ r=T at *
   obtain⟨q,hq⟩:∃q,q=T.length:=⟨_,rfl⟩
   rw[<-hq]at E1 hTL
   have HQ:=hid hq
   clear hq
   go_wp2_with fail
   have hb3:Below w0.heap.size w0 (w0.alloc (.cells #[.int .u64 r.time, .int .u8 r.level, .string r.source, .string r.text] 72)):=aZ (Below.refl _ _)
   generalize w0.alloc (.cells #[.int .u64 r.time, .int .u8 r.level, .string r.source, .string r.text] 72)=w3 at *
   have HM3:=hid (HM.out.step hb3)
   have HX3:=hid (HX.out.step hb3)
   have HB3:Hid (Below w.heap.size w w3):=cZ hb3 HB.out
   clear hb3 HM HX HB c0 c1 c2 c3
   refine(E1.out _).mono ?_
   rintro e w4 ⟨v4,rfl,ho4,hb4⟩
   obtain⟨A4,c4,rfl⟩:=bZ ho4
   have HM4:=hid (HM3.out.step hb4)
   have HX4:=hid (HX3.out.step hb4)
   have HB4:Hid (Below w.heap.size w w4):=cZ hb4 HB3.out
   have HO4:=hid ho4
   have hz34:=hb4.size
   have hz4:=HB4.out.size
   clear hb4 ho4 E1 HM3 HX3 HB3
   go_wp2_with fail
   go_loopw [22] (fun jv wr=>∃ (j m':Nat) (D':DataW Value) (V':Str->Value),j<=q/\m'<=m+j/\jv= .int .i64 j/\Hid (MI wr mb m' w.heap.size D' (fkZ TS T j) V')/\Hid (wr.ownsRow w3.heap.size 9 1 (.slice A4 q c4) q (abZ T))/\Hid (Blk wr w.heap.size 44 #[.slice none 0 0, .slice none 0 0])/\Hid (Below w.heap.size w wr)) (fun jv _=>q-(intOf jv).toNat)
   case atStart=>exact⟨0,m,D,V,by omega,by omega,rfl,(by show MI _ _ _ _ _ _ _;rw[hlZb];exact HM4.out),HO4.out,HX4.out,HB4.out⟩
   case round=>
    obtain⟨j,m',D',V',hj,hm',rfl,HM,HO,HX,HB⟩:=hrel
    clear HM4 HO4 HX4 HB4 hz34 hz4
    obtain⟨wi,rfl⟩:∃wi:World,wi=wr:=⟨_,rfl⟩
    by_cases hjl:j<q
    ·have gj:decide ((j:Int)<(q:Int))=true:=by simp;omega
     have gj':decide (j<q)=true:=by simp;omega
     have y0:(0:Int)<=(j:Int):=by omega
     have y1:(j:Int)<(q:Int):=by omega
     obtain⟨t,ht⟩:∃t,T[j]? =some t:=⟨_,List.getElem?_eq_getElem (by have:=HQ.out;omega)⟩
     obtain⟨g,cg,hAg,hbg,_⟩:=HO.out.form (by omega)
     injection hAg with hA1 hA2 hA3
     subst hA1 hA3
     have ck:wi.cell? ⟨g,j,none⟩=some (.string (bs t)):=by rw[HO.out.cellAt j (by omega)];exact fhZ ht
     have hts:=HTS.out t (List.mem_of_getElem? ht)
     have hst:=ilZb (ts:=TS) HTR.out ht
     rw[HKL.out]at hst
     have HST:=hid hst
     obtain⟨A5,c5,hV⟩:=bZ (HM.out.row t)
     have hlk:=HM.out.look t (by unfold maxLen;omega)
     have hrow:=HM.out.row t
     rw[hV]at hlk hrow
     have hpl:(fkZ TS T j t).length<=20001:=by
      have h1:=bxZ TS t
      have h2:=HKL.out
      unfold fkZ
      rw[List.length_append]
      split
      ·simp only[List.length_singleton];omega
      ·simp only[List.length_nil];omega
     obtain⟨p,hp⟩:∃p,p=(fkZ TS T j t).length:=⟨_,rfl⟩
     have HPE:=hid hp
     rw[<-hp]at hlk hrow hpl hV
     have HROW:=hid hrow
     have HV:=hid hV
     have HTS2:=hid hts
     have hzi:=HB.out.size
     have hmm:m'<maxLen:=by unfold maxLen;omega
     clear ht hts hst hV hrow hp HQ
     go_wp2_with(at_builtin;refine hZ rfl (.tmp 30) (.tmp 32) 38 rfl w.heap.size 3 j0 _ 1 8 Tryz.underlying38 hj0 hy0 hy1 hy2 rfl (by decide) _ _ _ (by rfl) (HROW.out.alloc _) _ 1 1 [.int .i64 (k:Nat)] (by rfl) (Src.of_blk (Blk.made _ _ _) 1 1 1 rfl) (by intro u hu;simp at hu;rcases hu with rfl;rfl) (by unfold maxLen;omega) (by omega) (by simp;omega) ?_;intro v6 w6 hown6 hg6 hat6;have hne:(some mb:Option Nat)≠(Value.slice A5 p c5).ownBlock:=(fun e=>hoZ HM.out HROW.out e.symm rfl);have hm6:=(HM.out.map.alloc (.cells #[.int .i64 (k:Nat)] 3)).kept hg6 hne;obtain⟨w7,hrun,hm7,hg7⟩:=hm6.update (string_keyed Tryz.underlying9) Tryz.underlying165 hmm (fcZb t (by have:=HTS2.out;unfold maxLen;omega)) (show bwZ v6=some (.held v6,[]) from rfl);have H6:=hid (And.intro hown6 (And.intro hg6 (And.intro hat6 hm6)));have H7:=hid (And.intro hm7 hg7);clear hown6 hg6 hat6 hne hm6 hm7 hg7)
     have HMI:Hid (MI w7 mb (m'+1) w.heap.size (D'.put (.string t) (.held v6)) (fkZ TS T (j+1)) (fun s=>if s=t then v6 else V' s)):=by
      show MI _ _ _ _ _ _ _
      rw[<-HST.out]
      exact MI.put HM.out HTS2.out.2 (aZ (Below.refl _ _)) (by rw[HV.out];exact H6.out.2.1) (by rw[<-HPE.out];exact H6.out.1) (by rw[HV.out];exact H6.out.2.2.1.imp_right fun e=>⟨_,e,Nat.le_refl _⟩) H7.out.1 H7.out.2
     have HO7:Hid (w7.ownsRow w3.heap.size 9 1 (.slice (some ⟨g,0,none⟩) q c4) q (abZ T)):=gcZb H6.out.2.2.2 (yhZ (HO.out.alloc _) (HROW.out.alloc _) (by decide) H6.out.2.1) H7.out.2
     have HX7:Hid (Blk w7 w.heap.size 44 #[.slice none 0 0, .slice none 0 0]):=hcZb H6.out.2.2.2 ((HX.out.alloc _).grown H6.out.2.1 (fun e=>kZ HROW.out HX.out (by decide) e.symm)) H7.out.2
     have HB7:Hid (Below w.heap.size w w7):=((eZ hzi HB.out).grown H6.out.2.1 (by simp;omega) (fun y hy=>(World.ownsRow.lt HROW.out y hy).1)).grown H7.out.2 (by have:=(eZ (o:= .cells #[.int .i64 (k:Nat)] 3) hzi HB.out).size;have:=H6.out.2.1.size;omega) (fun y hy=>by injection hy with hy;rw[<-hy];exact HMB.out)
     clear H6 H7 HM HO HX HB HROW HV HST
     go_roundw
     case measure=>go_light;simp[intOf];omega
     case rel=>go_light;exact⟨j+1,m'+1,_,_,by omega,by omega,by first|rfl|go_num,HMI.out,HO7.out,HX7.out,HB7.out⟩
    ·obtain rfl:j=q:=by omega
     have gj:decide ((j:Int)<(j:Int))=false:=by simp
     have gj':decide (j<j)=false:=by simp
     have HMI:Hid (MI wi mb m' w.heap.size D' (ocZ ((l.take (k+1)).map oZ)) V'):=by
      show MI _ _ _ _ _ _ _
      rw[HTK.out,<-koZb,<-HQ.out]
      exact HM.out
     clear HM HQ
     go_wp2_with fail
     go_roundw
     case measure=>go_light;simp[intOf];omega
     case rel=>go_light;exact⟨k+1,m',D',V',by omega,by omega,by first|rfl|go_num,HMI.out,HX.out,HB.out⟩
  ·obtain rfl:k=n:=by omega
   have gk:decide ((k:Int)<(k:Int))=false:=by simp
   have gk':decide (k<k)=false:=by simp
   have hall:l.take k=l:=List.take_of_length_le (by rw[HN.out];exact Nat.le_refl _)
   rw[hall]at HM
   have hlen:(l.map oZ).length=k:=by rw[List.length_map,HN.out]
   obtain⟨TS,hTS⟩:∃TS,TS=l.map oZ:=⟨_,rfl⟩
   rw[<-hTS]at HM hlen
   have HTSE:=hid hTS
   have HLEN:=hid hlen
   clear hall hTS hlen D1 HTL ha
   have hbx:Blk (w0.alloc (.cells #[.slice none 0 0, .slice none 0 0] 44)) w0.heap.size 44 #[.slice none 0 0, .slice none 0 0]:=Blk.made _ _ _
   have hb1:Below w0.heap.size w0 (w0.alloc (.cells #[.slice none 0 0, .slice none 0 0] 44)):=aZ (Below.refl _ _)
   obtain⟨bo,hbo⟩:∃bo,bo=w0.heap.size:=⟨_,rfl⟩
   go_wp2_with fail
   rw[<-hbo]at hbx ⊢
   have hbl:w.heap.size<bo:=by rw[hbo];exact HX.out.lt
   generalize w0.alloc (.cells #[.slice none 0 0, .slice none 0 0] 44)=w3 at *
   have HM3:=hid (HM.out.step hb1)
   have HX3:=hid (HX.out.step hb1)
   have HB3:Hid (Below w.heap.size w w3):=cZ hb1 HB.out
   have HBX3:=hid hbx
   have hms:=loZb HM3.out.map
   have hm2:m<=2000000000:=by omega
   have DK:=hid (callsIn_wide.1 (Tryz.maps_Keys_132 (some mb) w3))
   have DS:=hid (callsIn_wide.1 (Tryz.slices_Sorted_keys_131_132 mb m D bwZ w3 HM3.out.map (by unfold maxLen;omega) (by omega)))
   clear hb1 hbx HM HX HB hbo
   refine DK.out.mono ?_
   rintro e w4 ⟨rfl,rfl⟩
   clear DK
   go_wp2_with fail
   refine DS.out.mono ?_
   rintro e w5 ⟨vS,ss,rfl,hperm,hown,hnil,hb5⟩
   have hkeys:=HM3.out.keys hperm (jsZ TS) (cxZ TS)
   have hql:ss.length=(ibZ TS).length:=by rw[<-hkeys];exact(List.length_mergeSort ss).symm
   rw[hql,show ss.mergeSort (fun x y=>decide (x<=y))=ibZ TS from hkeys,imZb]at hown
   have hb35:Below w3.heap.size w3 w5:=cZ hb5 (aZ (Below.refl _ _))
   have hown5:w5.ownsRow w.heap.size 9 1 vS (ibZ TS).length (abZ (ibZ TS)):=nZ hown (by have:=HB3.out.size;simp;omega)
   obtain⟨SS,hSS⟩:∃SS,SS=ibZ TS:=⟨_,rfl⟩
   rw[<-hSS]at hown5
   have hqm:SS.length<=2000000000:=by
    rw[hSS,<-hql,hperm.length_eq]
    refine Nat.le_trans ?_ (Nat.le_trans hms hm2)
    unfold strKeys Maps.size
    cases D<;>simp
   obtain⟨q,hq⟩:∃q,q=SS.length:=⟨_,rfl⟩
   rw[<-hq]at hown5 hqm
   obtain⟨AS,cS,rfl⟩:=bZ hown5
   have HS5:Hid (St3 w5 mb m w.heap.size w.heap.size bo w5.heap.size D (ocZ TS) V (.slice AS q cS) (.slice none 0 0) (.slice none 0 0) q 0 0 SS):=
    ⟨HM3.out.step hb35,HX3.out.step hb35,HBX3.out.step hb35,by omega,World.ownsRow_nil _ _ _ _,World.ownsRow_nil _ _ _ _,hown5,fun g hg=>(World.ownsRow.lt hown5 g hg).2,by have:=HB3.out.size;have:=hb35.size;omega,Nat.le_refl _⟩
   have HB5:Hid (Below w.heap.size w w5):=cZ hb35 HB3.out
   have HQ:=hid hq
   have HSSE:=hid hSS
   have HLG:Hid (∀s∈SS,s.length<=25):=fun s hs=>HM3.out.long s ((cxZ TS s).1 (by rw[<-HSSE.out];exact hs))
   have HIL:Hid (∀s,(ocZ TS s).length<=20000):=fun s=>by have h1:=bxZ TS s;have h2:=HLEN.out;omega
   obtain⟨B2,hB2⟩:∃B2,B2=w5.heap.size:=⟨_,rfl⟩
   rw[<-hB2]at HS5
   clear hperm hown hnil hb5 hkeys hql hb35 hown5 hq hSS DS HM3 HX3 HBX3 HB3 hB2 hms hm2
   obtain⟨i0,hi0,hx0,hx1,hx2⟩:=info_parts zlZ
   obtain⟨i1,hi1,hw0,hw1,hw2⟩:=info_parts czZ
   go_wp2_with fail
   go_loopw [40] (fun iv wr=>∃ (k2:Nat) (vT vL:Value),k2<=q/\iv= .int .i64 k2/\Hid (St3 wr mb m w.heap.size w.heap.size bo B2 D (ocZ TS) V (.slice AS q cS) vT vL q k2 k2 SS)/\Hid (Below w.heap.size w wr)) (fun iv _=>q-(intOf iv).toNat)
   case atStart=>exact⟨0,_,_,by omega,rfl,HS5.out,HB5.out⟩
   case round=>
    obtain⟨k2,vT,vL,hk2,rfl,HS,HB⟩:=hrel
    clear HS5 HB5
    by_cases hkl:k2<q
    ·have gj:decide ((k2:Int)<(q:Int))=true:=by simp;omega
     have gj':decide (k2<q)=true:=by simp;omega
     have y0:(0:Int)<=(k2:Int):=by omega
     have y1:(k2:Int)<(q:Int):=by omega
     obtain⟨t,ht⟩:∃t,SS[k2]? =some t:=⟨_,List.getElem?_eq_getElem (by have:=HQ.out;omega)⟩
     obtain⟨g,cg,hAg,hbg,_⟩:=HS.out.ss.form (by omega)
     injection hAg with hA1 hA2 hA3
     subst hA1 hA3
     have ck:wr.cell? ⟨g,k2,none⟩=some (.string (bs t)):=by rw[HS.out.ss.cellAt k2 (by omega)];exact fhZ ht
     have htk:SS.take (k2+1)=SS.take k2++ [t]:=by rw[List.take_add_one,ht];rfl
     have HTK:=hid htk
     have htl:=HLG.out t (List.mem_of_getElem? ht)
     have HTL:=hid htl
     obtain⟨A5,c5,rfl⟩:=bZ HS.out.tt
     obtain⟨A8,c8,rfl⟩:=bZ HS.out.ll
     obtain⟨A7,c7,hV⟩:=bZ (HS.out.mi.row t)
     have HV:=hid hV
     have b0:=HS.out.box.cell 0
     simp only[List.getElem?_toArray,List.getElem?_cons_zero]at b0
     have hzr:=HB.out.size
     have hb2z:=HS.out.bz
     have hb22:=HS.out.b2
     obtain⟨p,hp⟩:∃p,p=(ocZ TS t).length:=⟨_,rfl⟩
     rw[<-hp]at HV
     clear ht htk htl hV hp
     go_wp2_with(first|(at_builtin;refine hZ rfl (.tmp 45) (.tmp 47) 41 rfl B2 9 i0 _ 1 16 Tryz.underlying41 hi0 hx0 hx1 hx2 rfl (by decide) _ _ _ (by rfl) (HS.out.tt.alloc _) _ 1 1 [.string (bs t)] (by rfl) (Src.of_blk (Blk.made _ _ _) 1 1 1 rfl) (by intro u hu;simp at hu;rcases hu with rfl;rfl) (by unfold maxLen;omega) (by omega) (by simp;omega) ?_;intro v6 w6 hown6 hg6 hat6;obtain⟨A6,c6,rfl⟩:=bZ hown6;have hS6:=HS.out.putT hg6 (by rw[HTK.out,kmZb];exact hown6);have hlk:=hS6.mi.look t (by have:=HTL.out;unfold maxLen;omega);rw[HV.out]at hlk;have f6:=((HS.out.box.alloc _).grown hg6 (fun e=>kZ HS.out.tt HS.out.box (by decide) e.symm)).frozen 0;have e6:=((HS.out.box.alloc _).grown hg6 (fun e=>kZ HS.out.tt HS.out.box (by decide) e.symm)).cell 0;have e61:=((HS.out.box.alloc _).grown hg6 (fun e=>kZ HS.out.tt HS.out.box (by decide) e.symm)).cell 1;simp only[List.getElem?_toArray,List.getElem?_cons_zero,List.getElem?_cons_succ]at e6 e61;have HB6:Hid (Below w.heap.size w w6):=(eZ hzr HB.out).grown hg6 (by simp;omega) (fun y hy=>Nat.le_trans hb22 (World.ownsRow.lt HS.out.tt y hy).1);have H6:=hid hS6;have hb6z:=hS6.bz;clear hS6 hown6 hg6 hat6)|(at_builtin;refine hZ rfl (.tmp 51) (.tmp 55) 42 rfl B2 38 i1 _ 1 24 Tryz.underlying42 hi1 hw0 hw1 hw2 rfl (by decide) _ _ _ (by rfl) (H6.out.ll.alloc _) _ 1 1 [.slice A7 p c7] (by rfl) (Src.of_blk (Blk.made_at _ _ _ (by simp)) 1 1 1 rfl) (by intro u hu;simp at hu;rcases hu with rfl;rfl) (by unfold maxLen;omega) (by omega) (by simp at hb6z ⊢;omega) ?_;intro v9 w9 hown9 hg9 hat9;obtain⟨A9,c9,rfl⟩:=bZ hown9;have hS9:=H6.out.putL hg9 (by rw[HTK.out,List.map_append,List.map_singleton,HV.out];exact hown9);have f9:=((H6.out.box.alloc _).grown hg9 (fun e=>kZ H6.out.ll H6.out.box (by decide) e.symm)).frozen 1;have e9:=((H6.out.box.alloc _).grown hg9 (fun e=>kZ H6.out.ll H6.out.box (by decide) e.symm)).cell 1;simp only[List.getElem?_toArray,List.getElem?_cons_zero,List.getElem?_cons_succ]at e9;have HB9:Hid (Below w.heap.size w w9):=(eZ (by have:=HB6.out.size;simp;omega) (jZ (Nat.le_of_lt hbl) HB6.out)).grown hg9 (by have:=HB6.out.size;simp;omega) (fun y hy=>Nat.le_trans hb22 (World.ownsRow.lt H6.out.ll y hy).1);have H9:=hid hS9;clear hS9 hown9 hg9 hat9))
     have HBF:Hid (Below w.heap.size w (w9.setCell ⟨bo,1,none⟩ (.slice A9 (k2+1) c9))):=jZ (Nat.le_of_lt hbl) HB9.out
     clear H6 HB6 HB9 HS HB
     go_roundw
     case measure=>go_light;simp[intOf];omega
     case rel=>go_light;exact⟨k2+1,_,_,by omega,by first|rfl|go_num,H9.out,HBF.out⟩
    ·obtain rfl:k2=q:=by omega
     have gj:decide ((k2:Int)<(k2:Int))=false:=by simp
     have gj':decide (k2<k2)=false:=by simp
     obtain⟨A5,c5,rfl⟩:=bZ HS.out.tt
     obtain⟨A8,c8,rfl⟩:=bZ HS.out.ll
     have b0:=HS.out.box.cell 0
     have b1:=HS.out.box.cell 1
     have r0:=HS.out.res.cell 0
     have r1:=HS.out.res.cell 1
     have s0:=HS.out.res.frozen 0
     have s1:=HS.out.res.frozen 1
     simp only[List.getElem?_toArray,List.getElem?_cons_zero,List.getElem?_cons_succ]at b0 b1 r0 r1
     go_wp2_with fail
     have hfull:SS.take k2=SS:=List.take_of_length_le (by rw[<-HQ.out];exact Nat.le_refl _)
     have ht1:=HS.out.tt
     have hl1:=HS.out.ll
     rw[hfull]at ht1 hl1
     have hbw:=HS.out.b2
     have n1:(Value.slice A5 k2 c5).ownBlock≠some w.heap.size:=kZ ht1 HS.out.res (by decide)
     have n2:(Value.slice A8 k2 c8).ownBlock≠some w.heap.size:=kZ hl1 HS.out.res (by decide)
     refine bodyPost_ret (v:= .agg #[.slice A5 k2 c5, .slice A8 k2 c8]) ?_ rfl ⟨_,_,SS.map V,rfl,⟨?_,?_,?_⟩,?_⟩
     ·have e0:=(HS.out.res.set 0 (.slice A5 k2 c5)).cell 0
      have e1:=((HS.out.res.set 0 (.slice A5 k2 c5)).set 1 (.slice A8 k2 c8)).cell 1
      simp at e0 e1
      simp[results,Tryz.results74,go_sem,e0,e1]
     ·rw[<-HTSE.out,<-HSSE.out,<-HQ.out]
      exact sbZ (sbZ (nZ ht1 hbw) n1 _) n1 _
     ·rw[<-HTSE.out,<-HSSE.out,List.length_map,<-HQ.out]
      exact sbZ (sbZ (nZ hl1 hbw) n2 _) n2 _
     ·intro i v ids hv hi
      rw[<-HTSE.out,<-HSSE.out]at hi
      rw[List.getElem?_map]at hv hi
      cases hs:SS[i]? with
      |none=>rw[hs]at hv;cases hv
      |some s=>
       rw[hs]at hv hi
       injection hv with hv
       injection hi with hi
       subst hv hi
       have hn:=kZ (HS.out.mi.row s) HS.out.res (by decide)
       exact sbZ (sbZ (HS.out.mi.row s) hn _) hn _
     ·exact jZ (Nat.le_refl _) (jZ (Nat.le_refl _) HB.out)
end Go.Proofs.YtmlaajebadfkoaaGreatDoor.Idx
namespace Go.Proofs.YtmlaajebadfkoaaGreatDoor.Idx
open Go.RowKit Mem Own Canon
open Go.Proofs.YtmlaajebadfkoaaGreatDoor.NumPut (iZ mZ mbZ)
open Go.Proofs.YtmlaajebadfkoaaGreatDoor.Ef (efO fcZ bgZ scZ ncZ pfZ unary gjZ oiZ umZ efW)
open Go.Proofs.YtmlaajebadfkoaaGreatDoor.Huff (bytesOf bytesOf_length)
def lbZ(bound:Nat)(ls:List (List Nat)):List Nat:=ls.flatMap (efO bound)
def ixO(size bound:Nat)(ts:List Str)(ls:List (List Nat)):List Nat:=ceZ size ts++lbZ bound ls
theorem ctZ(bound:Nat)(ls:List (List Nat))(k:Nat)(x:List Nat)(h:ls[k]? =some x):lbZ bound (ls.take (k+1))=lbZ bound (ls.take k)++efO bound x:=by
 unfold lbZ
 rw[List.take_add_one,h]
 simp
theorem irZ:∀ (l:List Nat) (was B:Nat),was<=B->(∀x∈l,was<=x/\x<=B)->l.Pairwise (·<= ·)->(ncZ was l).length+was<=B+l.length
 | [],was,B,hw,_,_=>by simp[ncZ];exact hw
 |x :: t,was,B,hw,h,hp=>by
  rw[List.pairwise_cons]at hp
  have hx:=h x List.mem_cons_self
  have ih:=irZ t x B hx.2 (fun y hy=>⟨hp.1 y hy,(h y (List.mem_cons_of_mem _ hy)).2⟩) hp.2
  rw[ncZ,List.length_append,gjZ,List.length_cons]
  omega
theorem jrZ:∀ (bound:Nat) (l:List Nat) (u:Option Nat),fcZ bound u l=true->l.Pairwise (·<= ·)/\∀y,u=some y->∀x∈l,y<=x
 |_,[],_,_=>⟨List.Pairwise.nil,fun _ _ _ hx=>by cases hx⟩
 |bound,a :: t,u,h=>by
  rw[fcZ,Bool.and_eq_true]at h
  have ih:=jrZ bound t (some a) h.2
  have ha:∀y,u=some y->y<=a:=fun y hy=>by
   have h1:=h.1
   unfold Ef.jiZ at h1
   rw[hy,Bool.and_eq_true]at h1
   have:=h1.2
   simp at this
   omega
  refine⟨List.pairwise_cons.2 ⟨fun x hx=>ih.2 a rfl x hx,ih.1⟩,fun y hy x hx=> ?_⟩
  rcases List.mem_cons.1 hx with rfl|hx
  ·exact ha y hy
  ·exact Nat.le_trans (ha y hy) (ih.2 a rfl x hx)
theorem dgZb{bound:Nat}{l:List Nat}(hb:bound<=20000)(hm:fcZ bound none l=true)(hn:l.length<=bound):(efO bound l).length<=45010:=by
 unfold efO
 split
 ·have:=mZ (x:=0) (by omega)
  omega
 ·rename_i h0
  have h1:1<=l.length:=List.length_pos_iff.2 h0
  have hq:1<=bound / l.length:=(Nat.one_le_div_iff (by omega)).2 hn
  have hW:efW bound l.length<=14:=by
   refine Decidable.byContradiction fun h=> ?_
   have h2:2 ^ 15<=2 ^ efW bound l.length:=Nat.pow_le_pow_right (by omega) (by omega)
   have h3:=Ef.unZ (q:=bound / l.length) (by omega)
   have h4:bound / l.length<=bound:=Nat.div_le_self _ _
   unfold efW at h2
   omega
  have hn2:=mZ (x:=l.length) (by omega)
  have hlow:=pfZ (efW bound l.length) l
  have hlw:l.length*efW bound l.length<=20000*14:=Nat.mul_le_mul (by omega) hW
  have hlt:=oiZ bound l none hm
  have hp:=(jrZ bound l none hm).1
  have hhi:=irZ (l.map (·/ 2 ^ efW bound l.length)) 0 bound (by omega) (fun x hx=>by
   obtain⟨y,hy,rfl⟩:=List.mem_map.1 hx
   exact⟨Nat.zero_le _,Nat.le_trans (Nat.div_le_self _ _) (by have:=hlt y hy;omega)⟩) (List.Pairwise.map _ (fun a b h=>Nat.div_le_div_right h) hp)
  rw[List.length_map]at hhi
  rw[List.length_append,bytesOf_length]
  unfold bgZ
  rw[List.length_append,hlow]
  omega
theorem icZb:∀ (bound:Nat) (l:List Nat) (u:Option Nat),fcZ bound u l=true->l.length+(match u with|none=>0|some y=>y+1)<=bound∨l= []
 |_,[],_,_=> .inr rfl
 |bound,a :: t,u,h=>by
  have h':=h
  rw[fcZ,Bool.and_eq_true]at h'
  have hlt:=oiZ bound (a :: t) u h a List.mem_cons_self
  have h1:=h'.1
  unfold Ef.jiZ at h1
  rw[Bool.and_eq_true]at h1
  refine .inl ?_
  rcases icZb bound t (some a) h'.2 with ih|ih
  ·simp only at ih
   cases u with
   |none=>simp only[List.length_cons];omega
   |some y=>
    have:=h1.2
    simp at this
    simp only[List.length_cons]
    omega
  ·subst ih
   cases u with
   |none=>simp only[List.length_cons,List.length_nil];omega
   |some y=>
    have:=h1.2
    simp at this
    simp only[List.length_cons,List.length_nil]
    omega
theorem llZ{bound:Nat}{l:List Nat}(h:fcZ bound none l=true)(h0:l≠ []):1<=l.length/\l.length<=bound:=by
 have h1:1<=l.length:=List.length_pos_iff.2 h0
 rcases icZb bound l none h with h2|h2
 ·exact⟨h1,by simpa using h2⟩
 ·exact absurd h2 h0
def vgZ(bound:Nat)(ls:List (List Nat)):Bool:=ls.all (fcZ bound none)
theorem miZb{bound k:Nat}{ls:List (List Nat)}{x:List Nat}(h:ls[k]? =some x):vgZ bound (ls.drop k)=(fcZ bound none x&&vgZ bound (ls.drop (k+1))):=by
 obtain⟨hk,e⟩:=List.getElem?_eq_some_iff.1 h
 rw[List.drop_eq_getElem_cons hk,e]
 rfl
theorem gnZ{bound:Nat}{ls:List (List Nat)}(h:vgZ bound ls=true){k:Nat}{x:List Nat}(hx:ls[k]? =some x):fcZ bound none x=true:=List.all_eq_true.1 h x (List.mem_of_getElem? hx)
theorem dwZ{bound:Nat}{ls:List (List Nat)}(hb:bound<=20000)(h0:∀l∈ls,l≠ [])(hm:vgZ bound ls=true):(lbZ bound ls).length<=45010*ls.length:=by
 induction ls with
 |nil=>simp[lbZ]
 |cons x t ih=>
  unfold vgZ at hm ih
  rw[List.all_cons,Bool.and_eq_true]at hm
  have ih:=ih (fun l hl=>h0 l (List.mem_cons_of_mem _ hl)) hm.2
  have hx:=dgZb hb hm.1 (llZ hm.1 (h0 x List.mem_cons_self)).2
  unfold lbZ at ih ⊢
  rw[List.flatMap_cons,List.length_append,List.length_cons]
  omega
theorem dzZ{size:Nat}{l:List Str}(hm:kjZ l=true)(h1:1<=size)(h2:size<=64)(hN:l.length<=20000):(ceZ size l).length<=820010:=by
 have hs:∀s∈l,s.length<=25:=fun s hs=>(sjZ hm s hs).2
 have a:=doZ hs h2 (by omega) (nCh size l.length)
 have b:=cqZ hs h1 (nCh size l.length)
 have c:=drZ (n:=l.length) h1
 have e:ceZ size l=hdB size l (nCh size l.length)++bdB size l (nCh size l.length):=zpZ h1 l
 rw[e,List.length_append]
 omega
theorem IxAt.step{w w':World}{base:Nat}{vT vL:Value}{vals:List Value}{ts:List Str}{ls:List (List Nat)}(h:IxAt w base vT vL vals ts ls)(hb:Below w.heap.size w w'):IxAt w' base vT vL vals ts ls:=
 ⟨fZ h.t fun y hy=>hb.block y (World.ownsRow.lt h.t y hy).2,fZ h.l fun y hy=>hb.block y (World.ownsRow.lt h.l y hy).2,fun i v ids hv hi=>fZ (h.r i v ids hv hi) fun y hy=>hb.block y (World.ownsRow.lt (h.r i v ids hv hi) y hy).2⟩
theorem IxAt.len{w:World}{base:Nat}{vT vL:Value}{vals:List Value}{ts:List Str}{ls:List (List Nat)}(h:IxAt w base vT vL vals ts ls):vals.length=ls.length:=by have:=h.l.1;omega
end Go.Proofs.YtmlaajebadfkoaaGreatDoor.Idx
namespace Go.Proofs.YtmlaajebadfkoaaGreatDoor.Idx
open Go.RowKit Mem Own Canon Sift
open NumPut Recs
open Go.Proofs.YtmlaajebadfkoaaGreatDoor.Ef (fcZ efO xoZ frZ)
open Go.Proofs.YtmlaajebadfkoaaGreatDoor.Huff (rgZ)
theorem jcZb{w:World}{base:Nat}{vT vL:Value}{vals:List Value}{ts:List Str}{ls:List (List Nat)}(h:IxAt w base vT vL vals ts ls){k:Nat}{x:List Nat}(hx:ls[k]? =some x):
 ∃A c,vals[k]? =some (.slice A x.length c)/\Row w w.heap.size A x.length 1 (rZ .i64 x):=by
 obtain⟨hk,_⟩:=List.getElem?_eq_some_iff.1 hx
 have hkv:k<vals.length:=by rw[h.len];exact hk
 have hv:vals[k]? =some vals[k]:=List.getElem?_eq_getElem hkv
 have ho:=h.r k _ x hv hx
 obtain⟨A,c,e⟩:=bZ ho
 rw[e]at hv ho
 exact⟨A,c,hv,Row.of_own ho rfl (fun i j hi hj=>by have e0:j=0:=(by omega);subst e0;exact rgZ (by omega))⟩
theorem niZb(w:World)(bound base:Nat)(vT vL:Value)(vals:List Value)(ts:List Str)(ls:List (List Nat))(hb:bound<=20000)(hT:ts.length<=1000000)(hL:ls.length=ts.length)(hm:kjZ ts=true)(h0:∀l∈ls,l≠ [])(hz:∀l∈ls,l.length<=1000000)(h:IxAt w base vT vL vals ts ls):
 Calls Tryz.prog 150 #[.int .i64 bound, .agg #[vT,vL]] w fun e w'=>e= .returned (.bool (vgZ bound ls))/\Below w.heap.size w w':=by
 obtain⟨n,hn⟩:∃n,n=ts.length:=⟨_,rfl⟩
 have hnl:ls.length=n:=by omega
 have ht:=h.t
 have hl:=h.l
 rw[<-hn]at ht hT
 rw[hnl]at hl
 obtain⟨AT,cT,rfl⟩:=bZ ht
 obtain⟨AL,cL,rfl⟩:=bZ hl
 have H:=hid h
 have HLN:=hid hnl
 have HL:=hid hl
 have H0:=hid h0
 have HZ:=hid hz
 have hba:Blk (w.alloc (.cells #[.slice AT n cT, .slice AL n cL] 44)) w.heap.size 44 #[.slice AT n cT, .slice AL n cL]:=Blk.made _ _ _
 have hbw:Below w.heap.size w (w.alloc (.cells #[.slice AT n cT, .slice AL n cL] 44)):=aZ (Below.refl _ _)
 have DM:=hid (fun wx (hx:Below w.heap.size w wx)=>avZ wx AT n cT ts hn.symm (by omega) (((bmZ ht).below hx).mono hx.size))
 rw[hm]at DM
 have y1:decide ((bound:Int)<0)=false:=by simp
 have y2:decide ((20000:Int)<(bound:Int))=false:=by simp;omega
 have y2':decide (20000<bound)=false:=by simp;omega
 have z1:((n:Int)==(n:Int))=true:=by simp
 obtain⟨R,hR⟩:∃R,R=vgZ bound ls:=⟨_,rfl⟩
 have HR:Hid (R=vgZ bound (ls.drop 0)):=hR
 rw[<-hR]
 have HBA:=hid hba
 have HBW:=hid hbw
 clear hn hnl hl ht h hR hm h0 hz hL hba hbw
 go_enter Tryz.func150,Tryz.ntmps150
 go_wp2_with fail
 refine(DM.out _ HBW.out).mono ?_
 rintro e w1 ⟨rfl,hq1⟩
 have HB1:Hid (Below w.heap.size w w1/\Below (w.alloc (.cells #[.slice AT n cT, .slice AL n cL] 44)).heap.size (w.alloc (.cells #[.slice AT n cT, .slice AL n cL] 44)) w1):=by
  obtain⟨q,rfl⟩:=hq1
  exact⟨below_drewN HBW.out q,below_drewN (Below.refl _ _) q⟩
 clear hq1 DM
 have HBA1:Hid (Blk w1 w.heap.size 44 #[.slice AT n cT, .slice AL n cL]):=HBA.out.step HB1.out.2
 go_wp2_with fail
 go_loopw [5] (fun iv wr=>∃k:Nat,k<=n/\iv= .int .i64 k/\Hid (R=vgZ bound (ls.drop k))/\Hid (Below w.heap.size w wr)/\Hid (Below w1.heap.size w1 wr)) (fun iv _=>n-(intOf iv).toNat)
 case atStart=>exact⟨0,by omega,rfl,HR.out,HB1.out.1,Below.refl _ _⟩
 case round=>
  obtain⟨k,hk,rfl,HS,HB,HB2⟩:=hrel
  have c1:=(HBA1.out.step HB2.out).cell 1
  simp only[List.getElem?_toArray,List.getElem?_cons_zero,List.getElem?_cons_succ]at c1
  by_cases hlt:k<n
  ·obtain⟨x,hx⟩:∃x,ls[k]? =some x:=⟨_,List.getElem?_eq_getElem (by have:=HLN.out;omega)⟩
   have hst:=miZb (bound:=bound) hx
   have hxm:=List.mem_of_getElem? hx
   have hx0:1<=x.length:=List.length_pos_iff.2 (H0.out x hxm)
   obtain⟨A,c,hv,hr⟩:=jcZb (H.out.step HB.out) hx
   have hlx:wr.ownsRow base 38 1 (.slice AL n cL) n vals:=fZ HL.out fun y hy=>HB.out.block y (World.ownsRow.lt HL.out y hy).2
   obtain⟨gl,cl,hgl,_,_⟩:=hlx.form (by omega)
   injection hgl with e1 e2 e3
   subst e1 e3
   have cv:wr.cell? ⟨gl,k,none⟩=some (.slice A x.length c):=(Lz.own_cells hlx hlt).1.trans hv
   have D:=hid (xoZ wr bound A x.length c x rfl (by have:=HZ.out x hxm;omega) hr)
   have gk:decide ((k:Int)<(n:Int))=true:=by simp;omega
   have gk':decide (k<n)=true:=by simp;omega
   have x0:(0:Int)<=(k:Int):=by omega
   have x1:(k:Int)<(n:Int):=by omega
   have xz:((x.length:Int)==0)=false:=by simp;intro e;rw[e]at hx0;simp at hx0
   obtain⟨xn,hxn⟩:∃xn,xn=x.length:=⟨_,rfl⟩
   rw[<-hxn]at cv D xz
   cases hmx:fcZ bound none x with
   |true=>
    rw[hmx,Bool.true_and]at hst
    rw[hmx]at D
    have HS2:Hid (R=vgZ bound (ls.drop (k+1))):=HS.out.trans hst
    clear HS hst hx hxm hx0 hv hr hlx hmx hxn
    go_wp2_with fail
    refine D.out.mono ?_
    rintro e w2 ⟨rfl,hq⟩
    have HB4:Hid (Below w.heap.size w w2/\Below w1.heap.size w1 w2):=by
     obtain⟨q,rfl⟩:=hq
     exact⟨below_drewN HB.out q,below_drewN HB2.out q⟩
    clear hq D HB HB2
    go_wp2_with fail
    go_roundw
    case measure=>go_light;simp[intOf];omega
    case rel=>go_light;exact⟨k+1,by omega,by first|rfl|go_num,HS2.out,HB4.out.1,HB4.out.2⟩
   |false=>
    rw[hmx,Bool.false_and]at hst
    rw[hmx]at D
    have hr2:R=false:=HS.out.trans hst
    subst hr2
    clear HS hst hx hxm hx0 hv hr hlx hmx hxn
    go_wp2_with fail
    refine D.out.mono ?_
    rintro e w2 ⟨rfl,hq⟩
    have HB4:Hid (Below w.heap.size w w2):=by
     obtain⟨q,rfl⟩:=hq
     exact below_drewN HB.out q
    clear hq D HB HB2
    go_wp2_with fail
    go_ret
    exact⟨rfl,HB4.out⟩
  ·obtain rfl:k=n:=by omega
   have gk:decide ((k:Int)<(k:Int))=false:=by simp
   have gk':decide (k<k)=false:=by simp
   have hr2:R=true:=by rw[HS.out,List.drop_of_length_le (by rw[HLN.out];exact Nat.le_refl _)];rfl
   subst hr2
   clear HS HR hlt
   go_wp2_with fail
   go_ret
   exact⟨rfl,HB.out⟩
theorem kcZb(w:World)(size bound base:Nat)(vT vL:Value)(vals:List Value)(ts:List Str)(ls:List (List Nat))(h1:1<=size)(h2:size<=64)(hb:bound<=20000)(hT:ts.length<=20000)(hL:ls.length=ts.length)(hm:kjZ ts=true)(h0:∀l∈ls,l≠ [])(hz:∀l∈ls,l.length<=1000000)(hms:vgZ bound ls=true)(h:IxAt w base vT vL vals ts ls):
 Calls Tryz.prog 95 #[.int .i64 (size:Nat), .int .i64 bound, .agg #[vT,vL]] w fun e w'=>∃v,e= .returned (.tuple #[v, .int .i64 0])/\w'.ownsRow w.heap.size 5 1 v (ixO size bound ts ls).length (dZ .u8 (ixO size bound ts ls))/\Below w.heap.size w w':=by
 obtain⟨j0,hj0,hy0,hy1,hy2⟩:=info_parts hbZ
 have DM:=hid (fun wx (hx:Below w.heap.size w wx)=>niZb wx bound base vT vL vals ts ls hb (by omega) hL hm h0 hz (h.step hx))
 rw[hms]at DM
 have hdl:=dzZ hm h1 h2 hT
 have hll:∀k,(lbZ bound (ls.take k)).length<=900200000:=fun k=>by
  have h3:vgZ bound (ls.take k)=true:=List.all_eq_true.2 fun x hx=>List.all_eq_true.1 hms x (List.mem_of_mem_take hx)
  have h4:=dwZ hb (fun l hl=>h0 l (List.mem_of_mem_take hl)) h3
  rw[List.length_take]at h4
  omega
 have HLL:=hid hll
 have hne:∀x,x∈ls->(efO bound x).length<=45010:=fun x hx=>dgZb hb (List.all_eq_true.1 hms x hx) (llZ (List.all_eq_true.1 hms x hx) (h0 x hx)).2
 obtain⟨n,hn⟩:∃n,n=ts.length:=⟨_,rfl⟩
 have hnl:ls.length=n:=by omega
 have ht:=h.t
 have hl:=h.l
 rw[<-hn]at ht hT
 rw[hnl]at hl
 obtain⟨AT,cT,rfl⟩:=bZ ht
 obtain⟨AL,cL,rfl⟩:=bZ hl
 have H:=hid h
 have HLN:=hid hnl
 have HL:=hid hl
 have H0:=hid h0
 have HMS:=hid hms
 have HNE:=hid hne
 have hba:Blk (w.alloc (.cells #[.slice AT n cT, .slice AL n cL] 44)) w.heap.size 44 #[.slice AT n cT, .slice AL n cL]:=Blk.made _ _ _
 have hbw:Below w.heap.size w (w.alloc (.cells #[.slice AT n cT, .slice AL n cL] 44)):=aZ (Below.refl _ _)
 have DD:=hid (fun wx (hx:Below w.heap.size w wx)=>ecZb wx size AT n cT ts hn.symm h1 h2 hT hm (((bmZ ht).below hx).mono hx.size))
 have y1:decide ((size:Int)<1)=false:=by simp;omega
 have y1':decide (size<1)=false:=by simp;omega
 have y2:decide ((64:Int)<(size:Int))=false:=by simp;omega
 have y2':decide (64<size)=false:=by simp;omega
 have HIX:Hid (ixO size bound ts ls=ceZ size ts++lbZ bound ls):=rfl
 have HSN:Hid (∀k x,ls[k]? =some x->lbZ bound (ls.take (k+1))=lbZ bound (ls.take k)++efO bound x):=fun k x hx=>ctZ bound ls k x hx
 obtain⟨DO,hDO⟩:∃DO,DO=ceZ size ts:=⟨_,rfl⟩
 rw[<-hDO]at DD HIX hdl
 have HBA:=hid hba
 have HBW:=hid hbw
 clear hn hnl hl ht h hm h0 hz hba hbw hms hne hll hDO
 go_enter Tryz.func95,Tryz.ntmps95
 go_wp2_with fail
 have q0:=HBA.out.cell 0
 have q1:=HBA.out.cell 1
 simp only[List.getElem?_toArray,List.getElem?_cons_zero,List.getElem?_cons_succ]at q0 q1
 refine(DM.out _ HBW.out).mono ?_
 rintro e w1 ⟨rfl,hb1⟩
 have HB1:=hid (cZ hb1 HBW.out)
 have HBA1:Hid (Blk w1 w.heap.size 44 #[.slice AT n cT, .slice AL n cL]):=HBA.out.step hb1
 clear hb1 DM q0 q1
 have q0:=HBA1.out.cell 0
 simp only[List.getElem?_toArray,List.getElem?_cons_zero]at q0
 go_wp2_with fail
 refine(DD.out _ HB1.out).mono ?_
 rintro e w2 ⟨v2,rfl,ho2,hb2⟩
 have bel_w1:=hid hb2
 have HBA2:Hid (Blk w2 w.heap.size 44 #[.slice AT n cT, .slice AL n cL]):=HBA1.out.step hb2
 have HO2:Hid (w2.ownsRow w1.heap.size 5 1 v2 (DO++lbZ bound (ls.take 0)).length (dZ .u8 (DO++lbZ bound (ls.take 0)))):=by
  show World.ownsRow _ _ _ _ _ _ _
  have e:DO++lbZ bound (ls.take 0)=DO:=by simp[lbZ]
  rw[e]
  exact ho2
 have hzz:w.heap.size<w1.heap.size:=HBA1.out.lt
 clear ho2 hb2 DD q0
 go_wp2_with fail
 go_loopw [8,10] (fun ov iv wr=>∃k:Nat,k<=n/\iv= .int .i64 k/\Hid (wr.ownsRow w1.heap.size 5 1 ov (DO++lbZ bound (ls.take k)).length (dZ .u8 (DO++lbZ bound (ls.take k))))/\Hid (Below w1.heap.size w1 wr)) (fun _ iv _=>n-(intOf iv).toNat)
 case atStart=>exact⟨0,by omega,rfl,HO2.out,bel_w1.out⟩
 case round=>
  obtain⟨k,hk,rfl,HO,HB⟩:=hrel
  clear HO2
  obtain⟨wi,rfl⟩:∃wi:World,wi=wr:=⟨_,rfl⟩
  have HBW1:Hid (Below w.heap.size w wi):=cZ HB.out HB1.out
  have c1:=(HBA1.out.step HB.out).cell 1
  simp only[List.getElem?_toArray,List.getElem?_cons_zero,List.getElem?_cons_succ]at c1
  have hz:=HB.out.size
  have hlk:=HLL.out k
  by_cases hlt:k<n
  ·obtain⟨x,hx⟩:∃x,ls[k]? =some x:=⟨_,List.getElem?_eq_getElem (by have:=HLN.out;omega)⟩
   have hxm:=List.mem_of_getElem? hx
   have hsh:=llZ (gnZ HMS.out hx) (H0.out x hxm)
   have hmx:=gnZ HMS.out hx
   have hne:=HNE.out x hxm
   have hst:=HSN.out k x hx
   obtain⟨A,c,hv,hr⟩:=jcZb (H.out.step HBW1.out) hx
   have hlx:wi.ownsRow base 38 1 (.slice AL n cL) n vals:=fZ HL.out fun y hy=>HBW1.out.block y (World.ownsRow.lt HL.out y hy).2
   obtain⟨gl,cl,hgl,_,_⟩:=hlx.form (by omega)
   injection hgl with e1 e2 e3
   subst e1 e3
   have cv:wi.cell? ⟨gl,k,none⟩=some (.slice A x.length c):=(Lz.own_cells hlx hlt).1.trans hv
   have D:=hid (frZ wi bound A x.length c x rfl hsh.1 hsh.2 hb hmx hr)
   have gk:decide ((k:Int)<(n:Int))=true:=by simp;omega
   have gk':decide (k<n)=true:=by simp;omega
   have x0:(0:Int)<=(k:Int):=by omega
   have x1:(k:Int)<(n:Int):=by omega
   obtain⟨xn,hxn⟩:∃xn,xn=x.length:=⟨_,rfl⟩
   rw[<-hxn]at cv D
   generalize efO bound x=EO at *
   have HSE:Hid (dZ .u8 (DO++lbZ bound (ls.take (k+1)))=dZ .u8 (DO++lbZ bound (ls.take k))++dZ .u8 EO):=by show _=_;rw[hst];simp[dZ]
   have HSL:Hid ((DO++lbZ bound (ls.take (k+1))).length=(DO++lbZ bound (ls.take k)).length+EO.length):=by show _=_;rw[hst];simp only[List.length_append];omega
   have hol:(DO++lbZ bound (ls.take k)).length<=901100000:=by rw[List.length_append];omega
   obtain⟨O2,hO2⟩:∃O2,O2=DO++lbZ bound (ls.take (k+1)):=⟨_,rfl⟩
   rw[<-hO2]at HSE HSL
   have HO2E:Hid (DO++lbZ bound (ls.take (k+1))=O2):=hO2.symm
   clear hO2
   generalize DO++lbZ bound (ls.take k)=O1 at *
   obtain⟨A1,c1',rfl⟩:=bZ HO.out
   clear hx hxm hsh hmx hst hv hr hlx hxn hlk
   go_wp2_with fail
   refine D.out.mono ?_
   rintro e w3 ⟨v3,rfl,ho3,hb3⟩
   obtain⟨A3,c3,rfl⟩:=bZ ho3
   have HS3:Hid (Src w3 A3 EO.length c3 1 (dZ .u8 EO)):=tZ ho3
   have HO3:Hid (w3.ownsRow w1.heap.size 5 1 (.slice A1 O1.length c1') O1.length (dZ .u8 O1)):=fZ HO.out fun y hy=>hb3.block y (World.ownsRow.lt HO.out y hy).2
   have HB3:Hid (Below w1.heap.size w1 w3):=gZ hb3 hz HB.out
   have hz3:=HB3.out.size
   clear ho3 hb3 D HO HB HBW1 cv c1
   go_wp2_with(at_builtin;refine hZ rfl (.tmp 49) (.tmp 50) 29 rfl w1.heap.size 5 j0 _ 1 1 Tryz.underlying29 hj0 hy0 hy1 hy2 rfl (by decide) _ _ _ (by rfl) HO3.out _ _ _ _ (by rfl) HS3.out (qZ _ _) (by unfold maxLen;omega) (by omega) hz3 ?_;intro v4 w4 hown4 hg4 hat4)
   have HB4:Hid (Below w1.heap.size w1 w4):=HB3.out.grown hg4 hz3 (fun y hy=>(World.ownsRow.lt HO3.out y hy).1)
   have HO4:Hid (w4.ownsRow w1.heap.size 5 1 v4 O2.length (dZ .u8 O2)):=by rw[HSE.out,HSL.out];exact hown4
   clear hown4 hg4 hat4 HO3 HS3 HB3
   go_roundw
   case measure=>go_light;simp[intOf];omega
   case rel=>go_light;exact⟨k+1,by omega,by first|rfl|go_num,by rw[HO2E.out];exact HO4.out,HB4.out⟩
  ·obtain rfl:k=n:=by omega
   have gk:decide ((k:Int)<(k:Int))=false:=by simp
   have gk':decide (k<k)=false:=by simp
   have hall:ls.take k=ls:=List.take_of_length_le (by rw[HLN.out];exact Nat.le_refl _)
   rw[hall,<-HIX.out]at HO
   clear hall hlt
   go_wp2_with fail
   go_ret2
   exact⟨_,rfl,nZ HO.out (by omega),HBW1.out⟩
end Go.Proofs.YtmlaajebadfkoaaGreatDoor.Idx
namespace Go.Proofs.YtmlaajebadfkoaaGreatDoor.Idx
open Go.RowKit Go.Maps Mem Own Canon Sift
open Recs Go.Proofs.YtmlaajebadfkoaaGreatDoor
structure RS (w:World) (base rb xb:Nat) (vT vL:Value) (q k:Nat) (SS:List Str) (vals:List Value) (I:Str->List Nat):Prop where
 res:Blk w rb 44 #[.slice none 0 0, .slice none 0 0]
 box:Blk w xb 44 #[vT,vL]
 ne:rb≠xb
 tt:w.ownsRow base 9 1 vT q (abZ SS)
 ll:w.ownsRow base 38 1 vL k vals
 vl:∀ (i:Nat) v s,vals[i]? =some v->SS[i]? =some s->w.ownsRow base 3 1 v (I s).length (dZ .i64 (I s))
section
variable {w w4:World} {base rb xb q k q':Nat} {SS SS':List Str} {vals:List Value} {vT vL v4 v:Value} {I I':Str->List Nat} {o:Obj}
theorem RS.step(h:RS w base rb xb vT vL q k SS vals I)(hb:Below w.heap.size w w4):RS w4 base rb xb vT vL q k SS vals I:=
 ⟨h.res.step hb,h.box.step hb,h.ne,fZ h.tt (fun b hy=>hb.block b (World.ownsRow.lt h.tt b hy).2),fZ h.ll (fun b hy=>hb.block b (World.ownsRow.lt h.ll b hy).2),
  fun i v s hv hs=>fZ (h.vl i v s hv hs) (fun b hy=>hb.block b (World.ownsRow.lt (h.vl i v s hv hs) b hy).2)⟩
theorem RS.putT(h:RS w base rb xb vT vL q 0 SS [] I)(hown:w.ownsRow base 9 1 v4 q' (abZ SS')):RS (w.setCell ⟨xb,0,none⟩ v4) base rb xb v4 vL q' 0 SS' [] I':=
 ⟨h.res.far h.ne _,h.box.set 0 v4,h.ne,sbZ hown (kZ hown h.box (by decide)) _,sbZ h.ll (kZ h.ll h.box (by decide)) _,fun i v s hv=>by cases hv⟩
theorem RS.putL{s:Str}(h:RS w base rb xb vT vL q k SS vals I)(hs:SS[k]? =some s)(hv:w.ownsRow base 3 1 v (I s).length (dZ .i64 (I s)))(hg:(w.alloc o).grownBy w4 vL.ownBlock)(hown:w4.ownsRow base 38 1 v4 (k+1) (vals++ [v])):
 RS (w4.setCell ⟨xb,1,none⟩ v4) base rb xb vT v4 q (k+1) SS (vals++ [v]) I:=by
 have hbx:Blk w4 xb 44 #[vT,vL]:=(h.box.alloc o).grown hg (fun e=>kZ h.ll h.box (by decide) e.symm)
 have hll:=h.ll
 have hk:vals.length=k:=by have:=h.ll.1;omega
 refine⟨((h.res.alloc o).grown hg (fun e=>kZ h.ll h.res (by decide) e.symm)).far h.ne _,hbx.set 1 v4,h.ne,?_,sbZ hown (kZ hown hbx (by decide)) _,fun i u t hu ht=> ?_⟩
 ·have:=yhZ (h.tt.alloc o) (h.ll.alloc o) (by decide) hg
  exact sbZ this (kZ this hbx (by decide)) _
 ·have hrow:w.ownsRow base 3 1 u (I t).length (dZ .i64 (I t)):=by
   by_cases hi:i<k
   ·rw[List.getElem?_append_left (by omega)]at hu
    exact h.vl i u t hu ht
   ·have hil:=(List.getElem?_eq_some_iff.1 hu).1
    rw[List.length_append,List.length_singleton]at hil
    obtain rfl:i=k:=by omega
    rw[List.getElem?_append_right (by omega),hk,Nat.sub_self]at hu
    rw[hs]at ht
    injection ht with ht
    injection hu with hu
    rw[<-ht,<-hu]
    exact hv
  have:=yhZ (hrow.alloc o) (h.ll.alloc o) (by decide) hg
  exact sbZ this (kZ this hbx (by decide)) _
end
def wgZ(ts:List (List Str))(u:Str)(i:Nat):List Nat:=(List.range i).filter fun i=>(ts.getD i []).contains u
theorem moZb(ts:List (List Str))(u:Str):wgZ ts u ts.length=ocZ ts u:=rfl
theorem ezZ{ts:List (List Str)}{T:List Str}{u:Str}{i:Nat}(h:ts[i]? =some T):wgZ ts u (i+1)=wgZ ts u i++(if T.contains u then [i]else []):=by
 unfold wgZ
 rw[List.range_succ,List.filter_append]
 congr 1
 rw[List.filter_cons,List.filter_nil,List.getD_eq_getElem?_getD,h]
 rfl
theorem oiZb(w:World)(A:Option Addr)(n c:Nat)(l:List Rec)(hn:l.length=n)(hN:n<=20000)(hsz:∀r∈l,r.source.size<=50000/\r.text.size<=50000)(ha:Row w w.heap.size A n 4 (xbZ l)):
 Calls Tryz.prog 75 #[.slice A n c] w (ioZ (l.map oZ) w):=by
 obtain⟨j0,hj0,hy0,hy1,hy2⟩:=info_parts bzZ
 obtain⟨i1,hi1,hw0,hw1,hw2⟩:=info_parts czZ
 have HN:=hid hn
 have D1:Hid (∀wx r,r∈l->Calls Tryz.prog 133 #[.agg #[.int .u64 r.time, .int .u8 r.level, .string r.source, .string r.text]] wx (hgZ (oZ r) wx)):=fun wx r hr=>ygZb wx r.time r.level r.source r.text (hsz r hr).1 (hsz r hr).2
 have HTL:Hid (∀r∈l,(oZ r).length<=100000):=fun r hr=>by
  have:=hrZ r.text.data.toList r.source.data.toList
  have h1:=Lib.size_eq r.text
  have h2:=Lib.size_eq r.source
  have:=hsz r hr
  unfold oZ
  omega
 unfold hgZ at D1
 unfold ioZ
 clear hn hsz
 go_enter Tryz.func75,Tryz.ntmps75
 go_wp2_with fail
 have HS0:Hid (RS ((w.alloc (.cells #[.slice none 0 0, .slice none 0 0] 44)).alloc (.cells #[.slice none 0 0, .slice none 0 0] 44)) w.heap.size w.heap.size (w.heap.size+1) (.slice none 0 0) (.slice none 0 0) 0 0 [] [] (fun _=> [])):=
  ⟨(Blk.made _ _ _).alloc _,Blk.made_at _ _ _ (by simp),by omega,World.ownsRow_nil _ _ _ _,World.ownsRow_nil _ _ _ _,fun i v s hv=>by cases hv⟩
 have HB0:Hid (Below w.heap.size w ((w.alloc (.cells #[.slice none 0 0, .slice none 0 0] 44)).alloc (.cells #[.slice none 0 0, .slice none 0 0] 44))):=aZ (aZ (Below.refl _ _))
 obtain⟨xb,hxb⟩:∃xb,xb=w.heap.size+1:=⟨_,rfl⟩
 rw[<-hxb]at HS0 ⊢
 have hxl:w.heap.size<=xb:=by omega
 generalize (w.alloc (.cells #[.slice none 0 0, .slice none 0 0] 44)).alloc (.cells #[.slice none 0 0, .slice none 0 0] 44)=w1 at *
 clear hxb
 go_loopw [4] (fun iv wr=>∃ (k m:Nat) (vT:Value),k<=n/\m<=100000*k/\iv= .int .i64 k/\Hid (RS wr w.heap.size w.heap.size xb vT (.slice none 0 0) m 0 (ibZ ((l.take k).map oZ)) [] (fun _=> []))/\Hid (Below w.heap.size w wr)) (fun iv _=>n-(intOf iv).toNat)
 case atStart=>exact⟨0,0,_,by omega,by omega,rfl,HS0.out,HB0.out⟩
 case round=>
  obtain⟨k,m,vT,hk,hm,rfl,HS,HB⟩:=hrel
  clear HS0 HB0
  obtain⟨w0,rfl⟩:∃w0:World,w0=wr:=⟨_,rfl⟩
  by_cases hlt:k<n
  ·have gk:decide ((k:Int)<(n:Int))=true:=by simp;omega
   have gk':decide (k<n)=true:=by simp;omega
   have x0:(0:Int)<=(k:Int):=by omega
   have x1:(k:Int)<(n:Int):=by omega
   obtain⟨b,off,r,rfl,hbb,hg,c0,c1,c2,c3⟩:=Row.rec (ha.below HB.out) HN.out hlt
   have hrl:=List.mem_of_getElem? hg
   have E1:=hid (fun wx=>D1.out wx r hrl)
   have hTL:=HTL.out r hrl
   have hTK:(l.take (k+1)).map oZ=(l.take k).map oZ++ [oZ r]:=by rw[List.take_add_one,hg,List.map_append];rfl
   have hAT:ibZ ((l.take (k+1)).map oZ)=zZ (ibZ ((l.take k).map oZ)) (oZ r):=by rw[hTK,ijZb]
   obtain⟨AT,hATe⟩:∃AT,AT=ibZ ((l.take k).map oZ):=⟨_,rfl⟩
   rw[<-hATe]at hAT HS
   have HAT:=hid hAT
   clear hg hrl hTK hAT hATe
   generalize oZ r=T at *
   obtain⟨q,hq⟩:∃q,q=T.length:=⟨_,rfl⟩
   rw[<-hq]at E1 hTL
   have HQ:=hid hq
   clear hq
   go_wp2_with fail
   refine(E1.out _).mono ?_
   rintro e w4 ⟨v4,rfl,ho4,hb4⟩
   obtain⟨A4,c4,rfl⟩:=bZ ho4
   have HS4:=hid (HS.out.step hb4)
   have HB4:Hid (Below w.heap.size w w4):=cZ hb4 HB.out
   have HO4:=hid (nZ ho4 HB.out.size)
   clear hb4 ho4 E1 HS HB c0 c1 c2 c3
   go_wp2_with fail
   go_loopw [6] (fun jv wr=>∃ (j m':Nat) (vT':Value),j<=q/\m'<=m+j/\jv= .int .i64 j/\Hid (RS wr w.heap.size w.heap.size xb vT' (.slice none 0 0) m' 0 (zZ AT (T.take j)) [] (fun _=> []))/\Hid (wr.ownsRow w.heap.size 9 1 (.slice A4 q c4) q (abZ T))/\Hid (Below w.heap.size w wr)) (fun jv _=>q-(intOf jv).toNat)
   case atStart=>exact⟨0,m,vT,by omega,by omega,rfl,(by show RS _ _ _ _ _ _ _ _ _ _ _;rw[List.take_zero];exact HS4.out),HO4.out,HB4.out⟩
   case round=>
    obtain⟨j,m',vT',hj,hm',rfl,HS,HO,HB⟩:=hrel
    clear HS4 HO4 HB4
    obtain⟨wi,rfl⟩:∃wi:World,wi=wr:=⟨_,rfl⟩
    by_cases hjl:j<q
    ·have gj:decide ((j:Int)<(q:Int))=true:=by simp;omega
     have gj':decide (j<q)=true:=by simp;omega
     have y0:(0:Int)<=(j:Int):=by omega
     have y1:(j:Int)<(q:Int):=by omega
     obtain⟨t,ht⟩:∃t,T[j]? =some t:=⟨_,List.getElem?_eq_getElem (by have:=HQ.out;omega)⟩
     obtain⟨g,cg,hAg,hbg,_⟩:=HO.out.form (by omega)
     injection hAg with hA1 hA2 hA3
     subst hA1 hA3
     have ck:wi.cell? ⟨g,j,none⟩=some (.string (bs t)):=by rw[HO.out.cellAt j (by omega)];exact fhZ ht
     have hst:=lnZ AT ht
     have hln:=amZ t (zZ AT (T.take j))
     have hml:(zZ AT (T.take j)).length=m':=by have h:=HS.out.tt.1;rw[rtZ]at h;omega
     rw[<-hst,hml]at hln
     obtain⟨A5,c5,rfl⟩:=bZ HS.out.tt
     have DP:Hid (∀wx,Below wi.heap.size wi wx->Calls Tryz.prog 134 #[.slice A5 m' c5, .string (bs t)] wx (qlZ (zZ AT (T.take (j+1))) w.heap.size wx)):=fun wx hb=>by
      rw[hst]
      exact woZ wx w.heap.size A5 m' c5 _ t hml (by omega) (Nat.le_trans HB.out.size hb.size) (HS.out.step hb).tt
     obtain⟨R,hR⟩:∃R,R=zZ AT (T.take (j+1)):=⟨_,rfl⟩
     rw[<-hR]at DP hln
     unfold qlZ at DP
     have HR:=hid hR
     have b0:=HS.out.box.cell 0
     simp only[List.getElem?_toArray,List.getElem?_cons_zero]at b0
     clear hst hml hR ht
     go_upto_region 9 with fail
     go_region_with((go_at_call 134;(with_reducible refine(DP.out _ (by(repeat(first|(with_reducible first|exact Below.refl _ _|assumption|refine Below.drew ?_|refine below_drewN ?_ _|refine aZ ?_|refine cZ (by assumption) ?_)|((with_reducible first|refine jZ ?_ ?_|refine eZ ?_ ?_|refine gZ (by assumption) ?_ ?_);(focus(first|(simp;done)|(simp;omega)|omega|(simp at *;omega)))))))).mono ?_);rintro e w6 ⟨v6,rfl,ho6,hb6⟩;obtain⟨A6,c6,rfl⟩:=bZ ho6;have hb66:Below wi.heap.size wi w6:=cZ hb6 (by(repeat(first|(with_reducible first|exact Below.refl _ _|assumption|refine Below.drew ?_|refine below_drewN ?_ _|refine aZ ?_|refine cZ (by assumption) ?_)|((with_reducible first|refine jZ ?_ ?_|refine eZ ?_ ?_|refine gZ (by assumption) ?_ ?_);(focus(first|(simp;done)|(simp;omega)|omega|(simp at *;omega)))))));have q0:=(HS.out.box.step hb66).cell 0;have q1:=(HS.out.box.step hb66).frozen 0;simp only[List.getElem?_toArray,List.getElem?_cons_zero]at q0))
     all_goals
      have HS7:Hid (RS (w6.setCell ⟨xb,0,none⟩ (.slice A6 R.length c6)) w.heap.size w.heap.size xb (.slice A6 R.length c6) (.slice none 0 0) R.length 0 (zZ AT (T.take (j+1))) [] (fun _=> [])):=by
       show RS _ _ _ _ _ _ _ _ _ _ _
       rw[<-HR.out]
       exact(HS.out.step hb66).putT ho6
      have HO7:Hid ((w6.setCell ⟨xb,0,none⟩ (.slice A6 R.length c6)).ownsRow w.heap.size 9 1 (.slice (some ⟨g,0,none⟩) q c4) q (abZ T)):=by
       have h:w6.ownsRow w.heap.size 9 1 (.slice (some ⟨g,0,none⟩) q c4) q (abZ T):=fZ HO.out (fun y hy=>hb66.block y (World.ownsRow.lt HO.out y hy).2)
       exact sbZ h (kZ h (HS.out.box.step hb66) (by decide)) _
      have HB7:Hid (Below w.heap.size w (w6.setCell ⟨xb,0,none⟩ (.slice A6 R.length c6))):=jZ hxl (cZ hb66 HB.out)
      clear HS HO HB DP b0 ck q0 q1 ho6 hb6 hb66 HR
      go_wp2_with fail
      go_roundw
      case measure=>go_light;simp[intOf];omega
      case rel=>go_light;exact⟨j+1,R.length,_,by omega,by omega,by first|rfl|go_num,HS7.out,HO7.out,HB7.out⟩
    ·obtain rfl:j=q:=by omega
     have gj:decide ((j:Int)<(j:Int))=false:=by simp
     have gj':decide (j<j)=false:=by simp
     have HS7:Hid (RS wi w.heap.size w.heap.size xb vT' (.slice none 0 0) m' 0 (ibZ ((l.take (k+1)).map oZ)) [] (fun _=> [])):=by
      show RS _ _ _ _ _ _ _ _ _ _ _
      have h:=HS.out
      rw[HQ.out,List.take_length,<-HAT.out]at h
      exact h
     clear HS HQ
     go_wp2_with fail
     go_roundw
     case measure=>go_light;simp[intOf];omega
     case rel=>go_light;exact⟨k+1,m',vT',by omega,by omega,by first|rfl|go_num,HS7.out,HB.out⟩
  ·obtain rfl:k=n:=by omega
   have gk:decide ((k:Int)<(k:Int))=false:=by simp
   have gk':decide (k<k)=false:=by simp
   have hall:l.take k=l:=List.take_of_length_le (by rw[HN.out];exact Nat.le_refl _)
   rw[hall]at HS
   have hlen:(l.map oZ).length=k:=by rw[List.length_map,HN.out]
   have HTG:Hid (∀ (i:Nat) r,l[i]? =some r->(l.map oZ)[i]? =some (oZ r)):=fun i r h=>by rw[List.getElem?_map,h];rfl
   obtain⟨TS,hTS⟩:∃TS,TS=l.map oZ:=⟨_,rfl⟩
   rw[<-hTS]at HS hlen HTG
   have HTSE:=hid hTS
   have HLEN:=hid hlen
   clear hall hTS hlen
   obtain⟨SS,hSS⟩:∃SS,SS=ibZ TS:=⟨_,rfl⟩
   rw[<-hSS]at HS
   have hml:SS.length=m:=by have h:=HS.out.tt.1;rw[rtZ]at h;omega
   have HML:=hid hml
   have HSSE:=hid hSS
   have hm2:m<=2000000000:=by omega
   have HS1:Hid (RS w0 w.heap.size w.heap.size xb vT (.slice none 0 0) m 0 SS [] (ocZ TS)):=⟨HS.out.res,HS.out.box,HS.out.ne,HS.out.tt,HS.out.ll,fun i v s hv=>by cases hv⟩
   have HB1:=hid HB.out
   obtain⟨A5,c5,rfl⟩:=bZ HS.out.tt
   clear hml hSS HS HB hm
   go_wp2_with fail
   go_loopw [7] (fun iv wr=>∃ (k2:Nat) (vL:Value) (vals:List Value),k2<=m/\iv= .int .i64 k2/\Hid (RS wr w.heap.size w.heap.size xb (.slice A5 m c5) vL m k2 SS vals (ocZ TS))/\Hid (Below w.heap.size w wr)) (fun iv _=>m-(intOf iv).toNat)
   case atStart=>exact⟨0,_,_,by omega,rfl,HS1.out,HB1.out⟩
   case round=>
    obtain⟨k2,vL,vals,hk2,rfl,HS,HB⟩:=hrel
    clear HS1 HB1
    obtain⟨w3,rfl⟩:∃w3:World,w3=wr:=⟨_,rfl⟩
    obtain⟨A8,c8,rfl⟩:=bZ HS.out.ll
    by_cases hkl:k2<m
    ·have gj:decide ((k2:Int)<(m:Int))=true:=by simp;omega
     have gj':decide (k2<m)=true:=by simp;omega
     have y0:(0:Int)<=(k2:Int):=by omega
     have y1:(k2:Int)<(m:Int):=by omega
     obtain⟨t,ht⟩:∃t,SS[k2]? =some t:=⟨_,List.getElem?_eq_getElem (by have:=HML.out;omega)⟩
     obtain⟨g,cg,hAg,hbg,_⟩:=HS.out.tt.form (by omega)
     injection hAg with hA1 hA2 hA3
     subst hA1 hA3
     have HCK:Hid (∀wx,Below w3.heap.size w3 wx->wx.cell? ⟨xb,0,none⟩=some (.slice (some ⟨g,0,none⟩) m c5)/\wx.cell? ⟨g,k2,none⟩=some (.string (bs t))):=fun wx hb=>by
      have h:=HS.out.step hb
      refine⟨h.box.cell 0,?_⟩
      rw[h.tt.cellAt k2 (by omega)]
      exact fhZ ht
     have HT:=hid ht
     have b0:=HS.out.box.cell 0
     simp only[List.getElem?_toArray,List.getElem?_cons_zero]at b0
     have hzr:=HB.out.size
     clear ht
     go_wp2_with fail
     go_loopw [8,9] (fun v iv wr=>∃ (i p:Nat),i<=k/\p<=i/\iv= .int .i64 i/\Hid ((wgZ TS t i).length=p)/\Hid (wr.ownsRow w3.heap.size 3 1 v p (dZ .i64 (wgZ TS t i)))/\Hid (Below w3.heap.size w3 wr)) (fun _ iv _=>k-(intOf iv).toNat)
     case atStart=>exact⟨0,0,by omega,by omega,rfl,rfl,World.ownsRow_nil _ _ _ _,Below.refl _ _⟩
     case round=>
      obtain⟨i,p,hi,hp,rfl,HP,HO,HB4⟩:=hrel
      obtain⟨wi,rfl⟩:∃wi:World,wi=wr:=⟨_,rfl⟩
      obtain⟨Av,cv,rfl⟩:=bZ HO.out
      by_cases hil:i<k
      ·have gi:decide ((i:Int)<(k:Int))=true:=by simp;omega
       have gi':decide (i<k)=true:=by simp;omega
       have z0:(0:Int)<=(i:Int):=by omega
       have z1:(i:Int)<(k:Int):=by omega
       have HBI:Hid (Below w.heap.size w wi):=cZ HB4.out HB.out
       obtain⟨b,off,r,hAe,hbb,hg,_⟩:=Row.rec ha HN.out hil
       subst hAe
       have hrl:=List.mem_of_getElem? hg
       have E1:=hid (fun wx=>D1.out wx r hrl)
       have hTL:=HTL.out r hrl
       have hti:TS[i]? =some (oZ r):=HTG.out i r hg
       have HK:Hid (∀wx,Below wi.heap.size wi wx->(wx.cell? ⟨xb,0,none⟩=some (.slice (some ⟨g,0,none⟩) m c5)/\wx.cell? ⟨g,k2,none⟩=some (.string (bs t)))/\wx.cell? ⟨b,off+i*4,none⟩=some (.int .u64 r.time)/\wx.cell? ⟨b,off+i*4+1,none⟩=some (.int .u8 r.level)/\wx.cell? ⟨b,off+i*4+2,none⟩=some (.string r.source)/\wx.cell? ⟨b,off+i*4+3,none⟩=some (.string r.text)):=fun wx hb=>by
        refine⟨HCK.out wx (cZ hb HB4.out),?_⟩
        obtain⟨b',off',r',hAe',_,hg',d⟩:=Row.rec (ha.below (cZ hb HBI.out)) HN.out hil
        injection hAe' with hAe'
        injection hAe' with h1 h2
        subst h1 h2
        rw[hg]at hg'
        injection hg' with hg'
        subst hg'
        exact d
       obtain⟨k0,k1,k2',k3,k4⟩:=HK.out wi (Below.refl _ _)
       clear hg hrl
       generalize oZ r=T at *
       obtain⟨q,hq⟩:∃q,q=T.length:=⟨_,rfl⟩
       rw[<-hq]at E1 hTL
       by_cases hc:T.contains t=true
       ·skip
        have hst:wgZ TS t (i+1)=wgZ TS t i++ [i]:=by rw[ezZ hti,hc];rfl
        have HST:=hid hst
        have DH:Hid (∀wx A c,Row wx wx.heap.size A q 1 (pgZ T)->Calls Tryz.prog 135 #[.slice A q c, .string (bs t)] wx (fun e w'=>e= .returned (.bool true)/\w'=wx)):=fun wx A c h=>by
         have:=taZb wx A q c T t hq.symm (by omega) h
         rwa [hc]at this
        clear hst hc hti hq
        go_upto_region 17 with fail
        go_region_held3 (fun wx=>(wx.cell? ⟨xb,0,none⟩=some (.slice (some ⟨g,0,none⟩) m c5)/\wx.cell? ⟨g,k2,none⟩=some (.string (bs t)))/\wx.cell? ⟨b,off+i*4,none⟩=some (.int .u64 r.time)/\wx.cell? ⟨b,off+i*4+1,none⟩=some (.int .u8 r.level)/\wx.cell? ⟨b,off+i*4+2,none⟩=some (.string r.source)/\wx.cell? ⟨b,off+i*4+3,none⟩=some (.string r.text)) (first|assumption|(refine HK.out _ ?_;(repeat(first|(with_reducible first|exact Below.refl _ _|assumption|refine Below.drew ?_|refine below_drewN ?_ _|refine aZ ?_|refine cZ (by assumption) ?_)|((with_reducible first|refine jZ ?_ ?_|refine eZ ?_ ?_|refine gZ (by assumption) ?_ ?_);(focus(first|(simp;done)|(simp;omega)|omega|(simp at *;omega)))))))) (first|(go_at_call 133;(with_reducible refine(E1.out _).mono ?_);rintro e w4 ⟨v4,rfl,ho4,hb4⟩;obtain⟨A4,c4,rfl⟩:=bZ ho4;have bN:Below wi.heap.size wi w4:=cZ hb4 (by(repeat(first|(with_reducible first|exact Below.refl _ _|assumption|refine Below.drew ?_|refine below_drewN ?_ _|refine aZ ?_|refine cZ (by assumption) ?_)|((with_reducible first|refine jZ ?_ ?_|refine eZ ?_ ?_|refine gZ (by assumption) ?_ ?_);(focus(first|(simp;done)|(simp;omega)|omega|(simp at *;omega))))))))|(go_at_call 135;(with_reducible refine(DH.out _ _ _ (bmZ ho4)).mono ?_);rintro e w5 ⟨rfl,rfl⟩))
        have HB5:Hid (Below w3.heap.size w3 w5):=cZ bN HB4.out
        have HO5:Hid (w5.ownsRow w3.heap.size 3 1 (.slice Av p cv) p (dZ .i64 (wgZ TS t i))):=fZ HO.out (fun y hy=>bN.block y (World.ownsRow.lt HO.out y hy).2)
        have hz35:=HB5.out.size
        clear hb4 ho4 bN HO HB4 HBI HK k0 k1 k2' k3 k4 E1 DH
        go_wp2_with(at_builtin;refine hZ rfl (.tmp 60) (.tmp 62) 38 rfl w3.heap.size 3 j0 _ 1 8 Tryz.underlying38 hj0 hy0 hy1 hy2 rfl (by decide) _ _ _ (by rfl) (HO5.out.alloc _) _ 1 1 [.int .i64 (i:Nat)] (by rfl) (Src.of_blk (Blk.made_at _ _ _ (by simp)) 1 1 1 rfl) (by intro u hu;simp at hu;rcases hu with rfl;rfl) (by unfold maxLen;omega) (by omega) (by simp;omega) ?_;intro v8 w8 hown8 hg8 hat8;obtain⟨A6,c6,rfl⟩:=bZ hown8;have HB8:Hid (Below w3.heap.size w3 w8):=(eZ hz35 HB5.out).grown hg8 (by simp;omega) (fun y hy=>(World.ownsRow.lt HO5.out y hy).1);have HO8:=hid hown8;clear hown8 hg8 hat8)
        have HP8:Hid ((wgZ TS t (i+1)).length=p+1):=by
         show _=_
         rw[HST.out,List.length_append,HP.out]
         rfl
        have HO9:Hid (w8.ownsRow w3.heap.size 3 1 (.slice A6 (p+1) c6) (p+1) (dZ .i64 (wgZ TS t (i+1)))):=by
         show World.ownsRow _ _ _ _ _ _ _
         rw[HST.out,show dZ .i64 (wgZ TS t i++ [i])=dZ .i64 (wgZ TS t i)++ [.int .i64 (i:Nat)] by simp[dZ]]
         exact HO8.out
        clear HO8 HO5 HST HP HB5
        go_roundw
        case measure=>go_light;simp[intOf];omega
        case rel=>go_light;exact⟨i+1,p+1,by omega,by omega,by first|rfl|go_num,HP8.out,HO9.out,HB8.out⟩
       ·have hc:T.contains t=false:=by simpa using hc
        have hst:wgZ TS t (i+1)=wgZ TS t i++ []:=by rw[ezZ hti,hc];rfl
        have HST:=hid hst
        have DH:Hid (∀wx A c,Row wx wx.heap.size A q 1 (pgZ T)->Calls Tryz.prog 135 #[.slice A q c, .string (bs t)] wx (fun e w'=>e= .returned (.bool false)/\w'=wx)):=fun wx A c h=>by
         have:=taZb wx A q c T t hq.symm (by omega) h
         rwa [hc]at this
        clear hst hc hti hq
        go_upto_region 17 with fail
        go_region_held3 (fun wx=>(wx.cell? ⟨xb,0,none⟩=some (.slice (some ⟨g,0,none⟩) m c5)/\wx.cell? ⟨g,k2,none⟩=some (.string (bs t)))/\wx.cell? ⟨b,off+i*4,none⟩=some (.int .u64 r.time)/\wx.cell? ⟨b,off+i*4+1,none⟩=some (.int .u8 r.level)/\wx.cell? ⟨b,off+i*4+2,none⟩=some (.string r.source)/\wx.cell? ⟨b,off+i*4+3,none⟩=some (.string r.text)) (first|assumption|(refine HK.out _ ?_;(repeat(first|(with_reducible first|exact Below.refl _ _|assumption|refine Below.drew ?_|refine below_drewN ?_ _|refine aZ ?_|refine cZ (by assumption) ?_)|((with_reducible first|refine jZ ?_ ?_|refine eZ ?_ ?_|refine gZ (by assumption) ?_ ?_);(focus(first|(simp;done)|(simp;omega)|omega|(simp at *;omega)))))))) (first|(go_at_call 133;(with_reducible refine(E1.out _).mono ?_);rintro e w4 ⟨v4,rfl,ho4,hb4⟩;obtain⟨A4,c4,rfl⟩:=bZ ho4;have bN:Below wi.heap.size wi w4:=cZ hb4 (by(repeat(first|(with_reducible first|exact Below.refl _ _|assumption|refine Below.drew ?_|refine below_drewN ?_ _|refine aZ ?_|refine cZ (by assumption) ?_)|((with_reducible first|refine jZ ?_ ?_|refine eZ ?_ ?_|refine gZ (by assumption) ?_ ?_);(focus(first|(simp;done)|(simp;omega)|omega|(simp at *;omega))))))))|(go_at_call 135;(with_reducible refine(DH.out _ _ _ (bmZ ho4)).mono ?_);rintro e w5 ⟨rfl,rfl⟩))
        have HB5:Hid (Below w3.heap.size w3 w5):=cZ bN HB4.out
        have HO5:Hid (w5.ownsRow w3.heap.size 3 1 (.slice Av p cv) p (dZ .i64 (wgZ TS t i))):=fZ HO.out (fun y hy=>bN.block y (World.ownsRow.lt HO.out y hy).2)
        have hz35:=HB5.out.size
        clear hb4 ho4 bN HO HB4 HBI HK k0 k1 k2' k3 k4 E1 DH
        have HP8:Hid ((wgZ TS t (i+1)).length=p):=by
         show _=_
         rw[HST.out,List.append_nil,HP.out]
        have HO9:Hid (w5.ownsRow w3.heap.size 3 1 (.slice Av p cv) p (dZ .i64 (wgZ TS t (i+1)))):=by
         show World.ownsRow _ _ _ _ _ _ _
         rw[HST.out,List.append_nil]
         exact HO5.out
        clear HO5 HST HP
        go_wp2_with fail
        go_roundw
        case measure=>go_light;simp[intOf];omega
        case rel=>go_light;exact⟨i+1,p,by omega,by omega,by first|rfl|go_num,HP8.out,HO9.out,HB5.out⟩
      ·obtain rfl:k=i:=by omega
       have gi:decide ((k:Int)<(k:Int))=false:=by simp
       have gi':decide (k<k)=false:=by simp
       have HSI:=hid (HS.out.step HB4.out)
       have HBI:Hid (Below w.heap.size w wi):=cZ HB4.out HB.out
       have hzi:=HBI.out.size
       have HROW:Hid (wi.ownsRow w.heap.size 3 1 (.slice Av p cv) (ocZ TS t).length (dZ .i64 (ocZ TS t))):=by
        show World.ownsRow _ _ _ _ _ _ _
        have e:ocZ TS t=wgZ TS t k:=by rw[<-moZb,HLEN.out]
        rw[e,HP.out]
        exact nZ HO.out hzr
       have e1:=HSI.out.box.cell 1
       simp only[List.getElem?_toArray,List.getElem?_cons_zero,List.getElem?_cons_succ]at e1
       clear HS HO HP HB HB4 HCK b0
       go_wp2_with(at_builtin;refine hZ rfl (.tmp 65) (.tmp 67) 42 rfl w.heap.size 38 i1 _ 1 24 Tryz.underlying42 hi1 hw0 hw1 hw2 rfl (by decide) _ _ _ (by rfl) (HSI.out.ll.alloc _) _ 1 1 [.slice Av p cv] (by rfl) (Src.of_blk (Blk.made_at _ _ _ (by simp)) 1 1 1 rfl) (by intro u hu;simp at hu;rcases hu with rfl;rfl) (by unfold maxLen;omega) (by omega) (by simp;omega) ?_;intro v9 w9 hown9 hg9 hat9;obtain⟨A9,c9,rfl⟩:=bZ hown9;have hS9:=HSI.out.putL HT.out HROW.out hg9 hown9;have f9:=((HSI.out.box.alloc _).grown hg9 (fun e=>kZ HSI.out.ll HSI.out.box (by decide) e.symm)).frozen 1;have e9:=((HSI.out.box.alloc _).grown hg9 (fun e=>kZ HSI.out.ll HSI.out.box (by decide) e.symm)).cell 1;simp only[List.getElem?_toArray,List.getElem?_cons_zero,List.getElem?_cons_succ]at e9;have HB9:Hid (Below w.heap.size w w9):=(eZ hzi HBI.out).grown hg9 (by simp;omega) (fun y hy=>(World.ownsRow.lt HSI.out.ll y hy).1);have H9:=hid hS9;clear hS9 hown9 hg9 hat9)
       have HBF:Hid (Below w.heap.size w (w9.setCell ⟨xb,1,none⟩ (.slice A9 (k2+1) c9))):=jZ hxl HB9.out
       clear HSI HBI HB9 HROW e1
       go_roundw
       case measure=>go_light;simp[intOf];omega
       case rel=>go_light;exact⟨k2+1,_,_,by omega,by first|rfl|go_num,H9.out,HBF.out⟩
    ·obtain rfl:m=k2:=by omega
     have gj:decide ((m:Int)<(m:Int))=false:=by simp
     have gj':decide (m<m)=false:=by simp
     have b0:=HS.out.box.cell 0
     have b1:=HS.out.box.cell 1
     have r0:=HS.out.res.cell 0
     have r1:=HS.out.res.cell 1
     have s0:=HS.out.res.frozen 0
     have s1:=HS.out.res.frozen 1
     simp only[List.getElem?_toArray,List.getElem?_cons_zero,List.getElem?_cons_succ]at b0 b1 r0 r1
     go_wp2_with fail
     have ht1:=HS.out.tt
     have hl1:=HS.out.ll
     have n1:(Value.slice A5 m c5).ownBlock≠some w.heap.size:=kZ ht1 HS.out.res (by decide)
     have n2:(Value.slice A8 m c8).ownBlock≠some w.heap.size:=kZ hl1 HS.out.res (by decide)
     refine bodyPost_ret (v:= .agg #[.slice A5 m c5, .slice A8 m c8]) ?_ rfl ⟨_,_,vals,rfl,⟨?_,?_,?_⟩,?_⟩
     ·have e0:=(HS.out.res.set 0 (.slice A5 m c5)).cell 0
      have e1:=((HS.out.res.set 0 (.slice A5 m c5)).set 1 (.slice A8 m c8)).cell 1
      simp at e0 e1
      simp[results,Tryz.results75,go_sem,e0,e1]
     ·rw[<-HTSE.out,<-HSSE.out,HML.out]
      exact sbZ (sbZ ht1 n1 _) n1 _
     ·rw[<-HTSE.out,<-HSSE.out,List.length_map,HML.out]
      exact sbZ (sbZ hl1 n2 _) n2 _
     ·intro i v ids hv hi
      rw[<-HTSE.out,<-HSSE.out]at hi
      rw[List.getElem?_map]at hi
      cases hs:SS[i]? with
      |none=>rw[hs]at hi;cases hi
      |some s=>
       rw[hs]at hi
       injection hi with hi
       subst hi
       have hrow:=HS.out.vl i v s hv hs
       have hn:=kZ hrow HS.out.res (by decide)
       exact sbZ (sbZ hrow hn _) hn _
     ·exact jZ (Nat.le_refl _) (jZ (Nat.le_refl _) HB.out)
end Go.Proofs.YtmlaajebadfkoaaGreatDoor.Idx
