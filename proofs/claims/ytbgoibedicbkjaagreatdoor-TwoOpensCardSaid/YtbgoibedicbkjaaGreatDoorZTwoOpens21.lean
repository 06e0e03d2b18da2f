/- The contracts of maps.Keys and slices.Sorted that the walks call, laid -/
import Derived.Test.YtbgoibedicbkjaaGreatDoorZTwoOpens12
import Derived.Test.YtbgoibedicbkjaaGreatDoorZTwoOpens19
import Derived.Test.YtbgoibedicbkjaaGreatDoorZTwoOpens13
import Derived.Test.YtbgoibedicbkjaaGreatDoorZTwoOpens20
import Derived.Test.YtbgoibedicbkjaaGreatDoorZTwoOpens17
import Derived.Test.YtbgoibedicbkjaaGreatDoorZTwoOpens3
import Derived.Test.YtbgoibedicbkjaaGreatDoorZTwoOpens18
import Derived.Shelf.SlIter.Nil
import Derived.Shelf.SortM.Plain
import Derived.Shelf.SortM.SortNone
import Derived.Ground.GgzProg
import Derived.Ground.SlgmProg
import Derived.Test.YtbgoibedicbkjaaGreatDoorProg
import Derived.Maps.OwnSet
import Derived.Sort.KeysCollected
import Derived.Deep.RegionHeld3
namespace Go.Proofs.YtbgoibedicbkjaaGreatDoor end Go.Proofs.YtbgoibedicbkjaaGreatDoor open Go.Proofs.YtbgoibedicbkjaaGreatDoor
open Go.Lib (hid)
set_option maxHeartbeats 8000000
set_option maxRecDepth 100000
namespace Go.Proofs
open Go.Shelf
def Tryz.keys106_ren:Go.Shelf.Ren:=⟨fun|7=>106|10=>162|n=>n,fun|23=>150|26=>9|3=>30|28=>154|0=>0|27=>153|33=>213|4=>4|n=>n,fun|n=>n⟩
theorem Tryz.keys106:Go.Proofs.SlLaysZ.n7 Tryz.prog Tryz.keys106_ren:={
 mixed:=by kernel_rfl
 f7:=⟨Tryz.f106.name,by decide,Tryz.func106.trans (congrArg some (by kernel_rfl))⟩
 f10:=⟨Tryz.f162.name,by decide,Tryz.func162.trans (congrArg some (by kernel_rfl))⟩
 t0:=Tryz.underlying0
 a0:=Tryz.isAgg0
 z0:=Tryz.sizeOf0
 v0:=Tryz.zeroValue0
 t4:=Tryz.underlying4
 a4:=Tryz.isAgg4
 z4:=Tryz.sizeOf4
 v4:=Tryz.zeroValue4
 t23:=Tryz.underlying150
 a23:=Tryz.isAgg150
 z23:=Tryz.sizeOf150
 v23:=Tryz.zeroValue150
 t26:=Tryz.underlying9
 a26:=Tryz.isAgg9
 z26:=Tryz.sizeOf9
 v26:=Tryz.zeroValue9
 t27:=Tryz.underlying153
 a27:=Tryz.isAgg153
 z27:=Tryz.sizeOf153
 v27:=Tryz.zeroValue153
 t28:=Tryz.underlying154
 a28:=Tryz.isAgg154
 z28:=Tryz.sizeOf154
 v28:=Tryz.zeroValue154
 t33:=Tryz.underlying213
 a33:=Tryz.isAgg213
 z33:=Tryz.sizeOf213
 v33:=Tryz.zeroValue213}
def Tryz.sorted105_ren:Go.Shelf.Ren:=⟨fun|6=>105|8=>161|9=>159|11=>203|13=>198|12=>202|23=>228|24=>229|14=>230|15=>231|16=>232|17=>233|18=>234|19=>235|20=>236|21=>237|22=>238|25=>258|26=>259|27=>260|28=>261|29=>262|30=>263|31=>276|n=>n,fun|26=>9|28=>154|24=>33|0=>0|3=>3|37=>191|48=>145|50=>57|4=>4|40=>319|39=>318|45=>53|5=>5|9=>9|51=>336|55=>339|57=>362|58=>233|33=>213|n=>n,fun|n=>n⟩
theorem Tryz.sorted105:Go.Proofs.SlLaysZ.n6 Tryz.prog Tryz.sorted105_ren:={
 mixed:=by kernel_rfl
 f6:=⟨Tryz.f105.name,by decide,Tryz.func105.trans (congrArg some (by kernel_rfl))⟩
 f8:=⟨Tryz.f161.name,by decide,Tryz.func161.trans (congrArg some (by kernel_rfl))⟩
 f11:=⟨Tryz.f203.name,by decide,Tryz.func203.trans (congrArg some (by kernel_rfl))⟩
 t0:=Tryz.underlying0
 a0:=Tryz.isAgg0
 z0:=Tryz.sizeOf0
 v0:=Tryz.zeroValue0
 t24:=Tryz.underlying33
 a24:=Tryz.isAgg33
 z24:=Tryz.sizeOf33
 v24:=Tryz.zeroValue33
 t26:=Tryz.underlying9
 a26:=Tryz.isAgg9
 z26:=Tryz.sizeOf9
 v26:=Tryz.zeroValue9
 t28:=Tryz.underlying154
 a28:=Tryz.isAgg154
 z28:=Tryz.sizeOf154
 v28:=Tryz.zeroValue154
 i26:=by kernel_rfl}
def Tryz.sort159_ren:Go.Shelf.Ren:=⟨fun|6=>159|8=>198|9=>202|19=>228|20=>229|21=>230|22=>231|23=>232|24=>233|25=>234|26=>235|27=>236|28=>237|29=>238|36=>258|31=>259|32=>260|37=>261|38=>262|39=>263|41=>276|n=>n,fun|27=>33|29=>9|3=>3|32=>191|26=>33|0=>0|44=>145|46=>57|4=>4|36=>319|35=>318|41=>53|5=>5|9=>9|53=>336|57=>339|63=>362|64=>233|n=>n,fun|n=>n⟩
theorem Tryz.sort159:Go.Proofs.SlLaysM.n6 Tryz.prog Tryz.sort159_ren:={
 mixed:=by kernel_rfl
 f6:=⟨Tryz.f159.name,by decide,Tryz.func159.trans (congrArg some (by kernel_rfl))⟩
 f8:=Tryz.func198.trans (congrArg some (by kernel_rfl))
 f9:=⟨Tryz.f202.name,by decide,Tryz.func202.trans (congrArg some (by kernel_rfl))⟩
 f19:=Tryz.func228.trans (congrArg some (by kernel_rfl))
 f20:=Tryz.func229.trans (congrArg some (by kernel_rfl))
 f21:=⟨Tryz.f230.name,by decide,Tryz.func230.trans (congrArg some (by kernel_rfl))⟩
 f22:=⟨Tryz.f231.name,by decide,Tryz.func231.trans (congrArg some (by kernel_rfl))⟩
 f23:=⟨Tryz.f232.name,by decide,Tryz.func232.trans (congrArg some (by kernel_rfl))⟩
 f24:=⟨Tryz.f233.name,by decide,Tryz.func233.trans (congrArg some (by kernel_rfl))⟩
 f25:=⟨Tryz.f234.name,by decide,Tryz.func234.trans (congrArg some (by kernel_rfl))⟩
 f26:=⟨Tryz.f235.name,by decide,Tryz.func235.trans (congrArg some (by kernel_rfl))⟩
 f27:=⟨Tryz.f236.name,by decide,Tryz.func236.trans (congrArg some (by kernel_rfl))⟩
 f28:=⟨Tryz.f237.name,by decide,Tryz.func237.trans (congrArg some (by kernel_rfl))⟩
 f29:=⟨Tryz.f238.name,by decide,Tryz.func238.trans (congrArg some (by kernel_rfl))⟩
 f31:=Tryz.func259.trans (congrArg some (by kernel_rfl))
 f32:=Tryz.func260.trans (congrArg some (by kernel_rfl))
 f36:=⟨Tryz.f258.name,by decide,Tryz.func258.trans (congrArg some (by kernel_rfl))⟩
 f37:=⟨Tryz.f261.name,by decide,Tryz.func261.trans (congrArg some (by kernel_rfl))⟩
 f38:=⟨Tryz.f262.name,by decide,Tryz.func262.trans (congrArg some (by kernel_rfl))⟩
 f39:=⟨Tryz.f263.name,by decide,Tryz.func263.trans (congrArg some (by kernel_rfl))⟩
 f41:=⟨Tryz.f276.name,by decide,Tryz.func276.trans (congrArg some (by kernel_rfl))⟩
 t0:=Tryz.underlying0
 a0:=Tryz.isAgg0
 z0:=Tryz.sizeOf0
 v0:=Tryz.zeroValue0
 t3:=Tryz.underlying3
 a3:=Tryz.isAgg3
 z3:=Tryz.sizeOf3
 v3:=Tryz.zeroValue3
 t4:=Tryz.underlying4
 a4:=Tryz.isAgg4
 z4:=Tryz.sizeOf4
 v4:=Tryz.zeroValue4
 t5:=Tryz.underlying5
 a5:=Tryz.isAgg5
 z5:=Tryz.sizeOf5
 v5:=Tryz.zeroValue5
 t9:=Tryz.underlying9
 a9:=Tryz.isAgg9
 z9:=Tryz.sizeOf9
 v9:=Tryz.zeroValue9
 t26:=Tryz.underlying33
 a26:=Tryz.isAgg33
 z26:=Tryz.sizeOf33
 v26:=Tryz.zeroValue33
 t27:=Tryz.underlying33
 a27:=Tryz.isAgg33
 z27:=Tryz.sizeOf33
 v27:=Tryz.zeroValue33
 t29:=Tryz.underlying9
 a29:=Tryz.isAgg9
 z29:=Tryz.sizeOf9
 v29:=Tryz.zeroValue9
 t32:=Tryz.underlying191
 a32:=Tryz.isAgg191
 z32:=Tryz.sizeOf191
 v32:=Tryz.zeroValue191
 t35:=Tryz.underlying318
 a35:=Tryz.isAgg318
 z35:=Tryz.sizeOf318
 v35:=Tryz.zeroValue318
 t36:=Tryz.underlying319
 a36:=Tryz.isAgg319
 z36:=Tryz.sizeOf319
 v36:=Tryz.zeroValue319
 t41:=Tryz.underlying53
 a41:=Tryz.isAgg53
 z41:=Tryz.sizeOf53
 v41:=Tryz.zeroValue53
 t44:=Tryz.underlying145
 a44:=Tryz.isAgg145
 z44:=Tryz.sizeOf145
 v44:=Tryz.zeroValue145
 t46:=Tryz.underlying57
 a46:=Tryz.isAgg57
 z46:=Tryz.sizeOf57
 v46:=Tryz.zeroValue57
 t53:=Tryz.underlying336
 a53:=Tryz.isAgg336
 z53:=Tryz.sizeOf336
 v53:=Tryz.zeroValue336
 t57:=Tryz.underlying339
 a57:=Tryz.isAgg339
 z57:=Tryz.sizeOf339
 v57:=Tryz.zeroValue339
 t63:=Tryz.underlying362
 a63:=Tryz.isAgg362
 z63:=Tryz.sizeOf362
 v63:=Tryz.zeroValue362
 t64:=Tryz.underlying233
 a64:=Tryz.isAgg233
 z64:=Tryz.sizeOf233
 v64:=Tryz.zeroValue233}
open Go.RowKit Go.Maps Go.Sort Go.Shelf
theorem Tryz.sorts105(m:Nat):AnyZ.SortsIn Tryz.prog Tryz.sorted105_ren Fence.wide m:=
 ⟨fun blk off cap ss W hH hblk hsz=>callsIn_wide.2 (AnyM.slices_Sort_string Tryz.sort159 blk off cap ss W hH hblk hsz),
  fun p cap W=>callsIn_wide.2 (AnyM.slices_Sort_string_none Tryz.sort159 p cap W)⟩
theorem Tryz.maps_Keys_106(mb:Option Nat)(W:World):CallsIn Fence.wide 5 Tryz.prog 106 #[.map mb] W fun e w'=>e= .returned (.func (.func 162) #[] #[.pointer (some ⟨W.heap.size,0,none⟩)])/\w'=W.alloc (.cells #[.map mb] 150):=
 AnyZ.keys_in Tryz.keys106 Fence.wide 5 trivial rfl mb W
theorem Tryz.slices_Sorted_keys_105_106{H:Type}(b nn:Nat)(D0:DataW H)(R:Value->Option (DataW H×List MemPlace))(w:World)(hown:w.ownsMap Tryz.prog 9 R b nn D0)(hmax:Maps.size D0<=maxLen)(hbytes:Maps.size D0*16<=140737488355328):
 CallsIn Fence.wide 5 Tryz.prog 105 #[.func (.func 162) #[] #[.pointer (some ⟨w.heap.size,0,none⟩)]] (w.alloc (.cells #[.map (some b)] 150)) fun e w'=>∃ (v:Value) (ss:List (List UInt8)),e= .returned v/\ss.Perm (strKeys D0)/\
  w'.ownsRow (w.alloc (.cells #[.map (some b)] 150)).heap.size 9 1 v ss.length ((ss.mergeSort (fun x y=>decide (x<=y))).map encStr)/\(v= .slice none 0 0↔ss= [])/\Below (w.alloc (.cells #[.map (some b)] 150)).heap.size (w.alloc (.cells #[.map (some b)] 150)) w':=by
 have hbl:=hown.lt
 have hseq:SeqGives Fence.wide 2 Tryz.prog 162 #[.pointer (some ⟨w.heap.size,0,none⟩)] encStr (fun ss=>ss.Perm (strKeys D0)) (Maps.size D0) (w.alloc (.cells #[.map (some b)] 150)):=
  AnyZ.keys_gives (ρ:=Tryz.keys106_ren) {Tryz.keys106 with} Fence.wide _ trivial rfl (by omega) w.heap.size b nn D0 _ (by simp) (by simp) (by
   obtain⟨es,clock,hb,Ft,hs,hD⟩:=hown
   exact⟨es,clock,(Below.heap_alloc _ _ b hbl).trans hb,Ft,hs,hD⟩)
 exact AnyZ.sorted_in Tryz.sorted105 Fence.wide 5 trivial trivial trivial trivial rfl (by omega) (Tryz.sorts105 _) (enters_of Tryz.func159 (by kernel_rfl) rfl) 162 #[.pointer (some ⟨w.heap.size,0,none⟩)] trivial (enters_of Tryz.func162 (by kernel_rfl) rfl) _ _ hmax hbytes _ hseq
end Go.Proofs
namespace Go.Proofs.YtbgoibedicbkjaaGreatDoor.Idx
open Go.RowKit Go.Maps Mem Own Canon Sift
def xaZb(v:Value):Option (DataW Value×List MemPlace):=some (.held v,[])
def gjZb:DataW Value:= .held (.slice none 0 0)
theorem alZb(s:Str)(hs:s.length<=maxLen):keyOf Tryz.prog 9 (.string (bs s))=some (.string s):=by
 have h:(⟨s.toArray⟩:ByteArray).size<=maxLen:=by have:=xbZ s;unfold bs at this;omega
 simp[keyOf,mapKey,Tryz.underlying9,h,bs]
structure MI (w:World) (mb m base:Nat) (D:DataW Value) (I:Str->List Nat) (V:Str->Value):Prop where
 map:w.ownsMap Tryz.prog 9 xaZb mb m D
 isMap:IsMap D
 has:∀s,Maps.has D (.string s)=decide (I s≠ [])
 at_:∀s,D.atKey (.string s) gjZb= .held (V s)
 row:∀s,w.ownsRow base 3 1 (V s) (I s).length (cZ .i64 (I s))
 apart:∀s s' g,s≠s'->(V s).ownBlock=some g->(V s').ownBlock≠some g
 long:∀s,I s≠ []->s.length<=25
theorem MI.start(w:World)(base:Nat):MI (w.alloc (.map #[] 0)) w.heap.size 0 base (.map []) (fun _=> []) (fun _=> .slice none 0 0):=
 ⟨World.ownsMap_made _ _ _ _,isMap_empty,fun s=>rfl,fun s=>rfl,fun s=>World.ownsRow_nil _ _ _ _,(fun s s' g _ h=>by cases h),fun s h=>absurd rfl h⟩
section
variable {w w':World} {mb m base:Nat} {D:DataW Value} {I:Str->List Nat} {V:Str->Value}
theorem MI.kept(h:MI w mb m base D I V)(hm:w'.heap[mb]? =w.heap[mb]?)(hr:∀s b,(V s).ownBlock=some b->w'.heap[b]? =w.heap[b]?):MI w' mb m base D I V:=
 ⟨(by obtain⟨es,clock,h1,h2,h3,h4⟩:=h.map;exact⟨es,clock,hm.trans h1,h2,h3,h4⟩),h.isMap,h.has,h.at_,fun s=>eZ (h.row s) (hr s),h.apart,h.long⟩
theorem MI.step(h:MI w mb m base D I V)(hb:Below w.heap.size w w'):MI w' mb m base D I V:=
 h.kept (hb.block _ h.map.lt) fun s b hs=>hb.block _ (World.ownsRow.lt (h.row s) b hs).2
theorem MI.look(h:MI w mb m base D I V)(s:Str)(hs:s.length<=maxLen):(Instr.lookup 150 (.map (some mb)) (.string (bs s)) false).run Tryz.prog w= .ok (V s) w:=by
 obtain⟨v,ps,h1,h2⟩:=h.map.lookup (string_keyed Tryz.underlying9) Tryz.underlying150 (z:= .slice none 0 0) (Tryz.zeroValue30 w) (zd:=gjZb) (zp:= []) rfl (alZb s hs)
 rw[h.at_ s]at h2
 simp only[xaZb,Option.some.injEq,Prod.mk.injEq,DataW.held.injEq]at h2
 rw[h1,h2.1]
theorem bwZ{g:Nat}{base' n' s':Nat}{e:TypeId}{v:Value}{xs:List Value}(h:MI w mb m base D I V)(ho:w.ownsRow base' e s' v n' xs)(hg:v.ownBlock=some g):g≠mb:=by
 obtain⟨es,clock,h1,_⟩:=h.map
 rcases ho.2 with ⟨hv,_⟩|⟨g',cap,cur,hv,_,h2,_⟩
 ·rw[hv]at hg;cases hg
 ·rw[hv]at hg
  have hgg:g'=g:=by simpa[Value.ownBlock]using hg
  rw[<-hgg]
  intro e
  rw[e,h1]at h2
  cases h2
end
theorem MI.keys{w:World}{mb m base:Nat}{D:DataW Value}{I:Str->List Nat}{V:Str->Value}(h:MI w mb m base D I V){ss ts:List Str}(hp:ss.Perm (strKeys D))(hr:gfZ ts)(hm:∀s,s∈ts↔I s≠ []):cuZ ss=ts:=by
 have hnd:ts.Nodup:=List.Pairwise.imp (fun{a b} (hab:a<b)=>(fun e:a=b=>xdZ a (by rw[<-e]at hab;exact hab))) hr
 have hc:Collected D (fun _=>false) ts:=⟨hnd,fun s=>by rw[hm,h.has];simp⟩
 have hpt:=hc.perm h.map (string_keyed Tryz.underlying9) Tryz.underlying9 (fun _=>rfl)
 have hst:ss.Perm ts:=hp.trans hpt.symm
 have hnd2:(cuZ ss).Nodup:=(((List.mergeSort_perm ss _).trans hst).nodup_iff).2 hnd
 exact dqZ (ecZb (yfZb ss) (List.Sublist.refl _) hnd2) hr fun s=>by rw[gcZb];exact hst.mem_iff
end Go.Proofs.YtbgoibedicbkjaaGreatDoor.Idx
namespace Go.Proofs.YtbgoibedicbkjaaGreatDoor.Idx
open Go.RowKit Go.Maps Mem Own Canon Sift
open Recs Go.Proofs.YtbgoibedicbkjaaGreatDoor
def abZ(r:Rec):List Str:=eqZ r.text.data.toList r.source.data.toList
structure IxAt (w:World) (base:Nat) (vT vL:Value) (vals:List Value) (ts:List Str) (ls:List (List Nat)):Prop where
 t:w.ownsRow base 9 1 vT ts.length (ccZ ts)
 l:w.ownsRow base 30 1 vL ls.length vals
 r:∀ (i:Nat) v ids,vals[i]? =some v->ls[i]? =some ids->w.ownsRow base 3 1 v ids.length (cZ .i64 ids)
def cwZ(ts:List (List Str))(w:World)(e:Ending)(w':World):Prop:=
 ∃vT vL vals,e= .returned (.agg #[vT,vL])/\IxAt w' w.heap.size vT vL vals (obZ ts) ((obZ ts).map (weZ ts))/\Below w.heap.size w w'
theorem wdZb:(Tryz.prog.info? 3).map (fun i=>(i.zero,i.size,i.bytes))=some (some (.int .i64 0),1,8):=by kernel_rfl
theorem xdZb:(Tryz.prog.info? 30).map (fun i=>(i.zero,i.size,i.bytes))=some (some (.slice none 0 0),1,24):=by kernel_rfl
theorem yaZb{r:Rec}{s:Str}(h:s∈abZ r):1<=s.length/\s.length<=25:=by
 unfold abZ at h
 rw[fcZb]at h
 unfold erZ at h
 rcases List.mem_append.1 h with h|h
 ·have:=doZ _ s h;omega
 ·obtain⟨x,hx,rfl⟩:=List.mem_map.1 h
  have:=doZ _ x hx
  simp only[List.length_cons]
  omega
theorem ydZb(t s:List UInt8):(eqZ t s).length<=t.length+s.length:=by
 have h1:=mlZ (erZ t s) []
 have h2:=qsZ t
 have h3:=qsZ s
 unfold eqZ
 unfold erZ at h1
 rw[List.length_append,List.length_map]at h1
 unfold erZ
 simp only[List.length_nil]at h1
 omega
theorem hzZ(ts:List (List Str))(u:Str):(weZ ts u).length<=ts.length:=by
 unfold weZ
 exact Nat.le_trans (List.length_filter_le _ _) (by simp)
theorem gmZ{w w':World}{base base' s s' n n':Nat}{e e':TypeId}{v v':Value}{xs xs':List Value}(h:w.ownsRow base e s v n xs)(ho:w.ownsRow base' e' s' v' n' xs')(hne:e≠e')(hg:w.grownBy w' v'.ownBlock):w'.ownsRow base e s v n xs:=
 eZ h (fun y hy=>hg.block y (World.ownsRow.lt h y hy).2 (fun e=>by
  rcases ddZ h ho hne with h0|h0
  ·rw[h0]at hy;cases hy
  ·exact h0 (hy.trans e)))
section
variable {H:Type} {P:Program} {kt:TypeId} {R:Value->Option (DataW H×List MemPlace)} {w w':World} {mb m:Nat} {D:DataW H}
end
theorem rrZ(ts:List (List Str))(s:Str):s∈obZ ts↔weZ ts s≠ []:=by
 rw[puZ]
 unfold weZ
 rw[ne_eq,List.filter_eq_nil_iff]
 constructor
 ·rintro⟨t,ht,hs⟩ h
  obtain⟨i,hi,rfl⟩:=List.getElem_of_mem ht
  have:=h i (List.mem_range.2 hi)
  rw[List.getD_eq_getElem?_getD,List.getElem?_eq_getElem hi]at this
  simp at this
  exact this hs
 ·intro h
  refine Decidable.byContradiction fun hn=>h fun i hi=> ?_
  rw[List.mem_range]at hi
  rw[List.getD_eq_getElem?_getD,List.getElem?_eq_getElem hi]
  simp only[Option.getD_some,List.contains_iff_mem]
  exact fun hm=>hn ⟨_,List.getElem_mem hi,hm⟩
theorem rhZb{H:Type}{P:Program}{kt:TypeId}{R:Value->Option (DataW H×List MemPlace)}{w:World}{mb m:Nat}{D:DataW H}(h:w.ownsMap P kt R mb m D):Maps.size D<=m:=by
 obtain⟨es,clock,_,_,hs,rfl⟩:=h
 show(List.foldr DataW.insert [] _).length<=m
 rw[length_sorted,List.length_map]
 simpa using hs
structure St3 (w:World) (mb m base rb bo B2:Nat) (D:DataW Value) (I:Str->List Nat) (V:Str->Value) (vS vT vL:Value) (q nT nL:Nat) (SS:List Str):Prop where
 mi:MI w mb m base D I V
 res:Blk w rb 36 #[.slice none 0 0, .slice none 0 0]
 box:Blk w bo 36 #[vT,vL]
 ne:rb≠bo
 tt:w.ownsRow B2 9 1 vT nT (ccZ (SS.take nT))
 ll:w.ownsRow B2 30 1 vL nL ((SS.take nL).map V)
 ss:w.ownsRow base 9 1 vS q (ccZ SS)
 sg:∀g,vS.ownBlock=some g->g<B2
 b2:base<=B2
 bz:B2<=w.heap.size
section
variable {w w4:World} {mb m base rb bo B2 q nT nL:Nat} {D:DataW Value} {I:Str->List Nat} {V:Str->Value} {vS vT vL v4:Value} {SS:List Str} {o:Obj}
theorem St3.putT(h:St3 w mb m base rb bo B2 D I V vS vT vL q nT nL SS)(hg:(w.alloc o).grownBy w4 vT.ownBlock)(hown:w4.ownsRow B2 9 1 v4 (nT+1) (ccZ (SS.take (nT+1)))):
 St3 (w4.setCell ⟨bo,0,none⟩ v4) mb m base rb bo B2 D I V vS v4 vL q (nT+1) nL SS:=by
 have hbx:Blk w4 bo 36 #[vT,vL]:=(h.box.alloc o).grown hg (fun e=>jZ h.tt h.box (by decide) e.symm)
 have hmap:w4.heap[mb]? =w.heap[mb]? :=(hg.block mb (by have:=h.mi.map.lt;simp;omega) (fun e=>bwZ h.mi h.tt e.symm rfl)).trans (Below.heap_alloc w o mb h.mi.map.lt)
 have hm4:MI w4 mb m base D I V:=(h.mi.step (aZ (Below.refl _ _) (o:=o))).kept (hg.block mb (by have:=h.mi.map.lt;simp;omega) (fun e=>bwZ h.mi h.tt e.symm rfl)) fun s b hb=>by
  refine hg.block b (by have:=(World.ownsRow.lt (h.mi.row s) b hb).2;simp;omega) fun e=> ?_
  rcases ddZ (h.mi.row s) h.tt (by decide)with h0|h0
  ·rw[h0]at hb;cases hb
  ·exact h0 (hb.trans e)
 have hmb:mb≠bo:=fun e=>by
  obtain⟨es,clock,h1,_⟩:=hm4.map
  have h2:w4.heap[bo]? =some (.cells #[vT,vL] 36):=hbx
  rw[e,h2]at h1
  cases h1
 refine⟨hm4.kept (Below.heap_setCell w4 _ _ mb hmb) fun s b hb=>Below.heap_setCell w4 _ _ b (fun e=>jZ (hm4.row s) hbx (by decide) (hb.trans (congrArg some e))),?_,?_,h.ne,?_,?_,?_,h.sg,h.b2,?_⟩
 ·exact((h.res.alloc o).grown hg (fun e=>jZ h.tt h.res (by decide) e.symm)).far h.ne _
 ·exact hbx.set 0 v4
 ·exact qeZ hown (jZ hown hbx (by decide)) _
 ·have:=gmZ (h.ll.alloc o) (h.tt.alloc o) (by decide) hg
  exact qeZ this (jZ this hbx (by decide)) _
 ·have:w4.ownsRow base 9 1 vS q (ccZ SS):=eZ h.ss fun b hb=>(hg.block b (by have:=(World.ownsRow.lt h.ss b hb).2;simp;omega) (fun e=>by have h1:=h.sg b hb;have h2:=(World.ownsRow.lt h.tt b e.symm).1;omega)).trans (Below.heap_alloc w o b (World.ownsRow.lt h.ss b hb).2)
  exact qeZ this (jZ this hbx (by decide)) _
 ·have h1:=hg.size
  have h2:=h.bz
  simp at h1 ⊢
  omega
theorem St3.putL(h:St3 w mb m base rb bo B2 D I V vS vT vL q nT nL SS)(hg:(w.alloc o).grownBy w4 vL.ownBlock)(hown:w4.ownsRow B2 30 1 v4 (nL+1) ((SS.take (nL+1)).map V)):
 St3 (w4.setCell ⟨bo,1,none⟩ v4) mb m base rb bo B2 D I V vS vT v4 q nT (nL+1) SS:=by
 have hbx:Blk w4 bo 36 #[vT,vL]:=(h.box.alloc o).grown hg (fun e=>jZ h.ll h.box (by decide) e.symm)
 have hm4:MI w4 mb m base D I V:=(h.mi.step (aZ (Below.refl _ _) (o:=o))).kept (hg.block mb (by have:=h.mi.map.lt;simp;omega) (fun e=>bwZ h.mi h.ll e.symm rfl)) fun s b hb=>by
  refine hg.block b (by have:=(World.ownsRow.lt (h.mi.row s) b hb).2;simp;omega) fun e=> ?_
  rcases ddZ (h.mi.row s) h.ll (by decide)with h0|h0
  ·rw[h0]at hb;cases hb
  ·exact h0 (hb.trans e)
 have hmb:mb≠bo:=fun e=>by
  obtain⟨es,clock,h1,_⟩:=hm4.map
  have h2:w4.heap[bo]? =some (.cells #[vT,vL] 36):=hbx
  rw[e,h2]at h1
  cases h1
 refine⟨hm4.kept (Below.heap_setCell w4 _ _ mb hmb) fun s b hb=>Below.heap_setCell w4 _ _ b (fun e=>jZ (hm4.row s) hbx (by decide) (hb.trans (congrArg some e))),?_,?_,h.ne,?_,?_,?_,h.sg,h.b2,?_⟩
 ·exact((h.res.alloc o).grown hg (fun e=>jZ h.ll h.res (by decide) e.symm)).far h.ne _
 ·exact hbx.set 1 v4
 ·have:=gmZ (h.tt.alloc o) (h.ll.alloc o) (by decide) hg
  exact qeZ this (jZ this hbx (by decide)) _
 ·exact qeZ hown (jZ hown hbx (by decide)) _
 ·have:=gmZ (h.ss.alloc o) (h.ll.alloc o) (by decide) hg
  exact qeZ this (jZ this hbx (by decide)) _
 ·have h1:=hg.size
  have h2:=h.bz
  simp at h1 ⊢
  omega
end
end Go.Proofs.YtbgoibedicbkjaaGreatDoor.Idx
namespace Go.Proofs.YtbgoibedicbkjaaGreatDoor.Idx
open Go.RowKit Mem Own Canon
open Go.Proofs.YtbgoibedicbkjaaGreatDoor.NumPut (nZ rZ ucZ)
open Go.Proofs.YtbgoibedicbkjaaGreatDoor.Ef (efO ycZ uhZ seZ sdZ fgZ unary rjZ kiZ wmZ efW)
open Go.Proofs.YtbgoibedicbkjaaGreatDoor.Huff (bytesOf bytesOf_length)
def hdZ(bound:Nat)(ls:List (List Nat)):List Nat:=ls.flatMap (efO bound)
def ixO(size bound:Nat)(ts:List Str)(ls:List (List Nat)):List Nat:=agZ size ts++hdZ bound ls
theorem xxZ(bound:Nat)(ls:List (List Nat))(k:Nat)(x:List Nat)(h:ls[k]? =some x):hdZ bound (ls.take (k+1))=hdZ bound (ls.take k)++efO bound x:=by
 unfold hdZ
 rw[List.take_add_one,h]
 simp
theorem enZ:∀ (l:List Nat) (was B:Nat),was<=B->(∀x∈l,was<=x/\x<=B)->l.Pairwise (·<= ·)->(sdZ was l).length+was<=B+l.length
 | [],was,B,hw,_,_=>by simp[sdZ];exact hw
 |x :: t,was,B,hw,h,hp=>by
  rw[List.pairwise_cons]at hp
  have hx:=h x List.mem_cons_self
  have ih:=enZ t x B hx.2 (fun y hy=>⟨hp.1 y hy,(h y (List.mem_cons_of_mem _ hy)).2⟩) hp.2
  rw[sdZ,List.length_append,rjZ,List.length_cons]
  omega
theorem fnZ:∀ (bound:Nat) (l:List Nat) (u:Option Nat),ycZ bound u l=true->l.Pairwise (·<= ·)/\∀y,u=some y->∀x∈l,y<=x
 |_,[],_,_=>⟨List.Pairwise.nil,fun _ _ _ hx=>by cases hx⟩
 |bound,a :: t,u,h=>by
  rw[ycZ,Bool.and_eq_true]at h
  have ih:=fnZ bound t (some a) h.2
  have ha:∀y,u=some y->y<=a:=fun y hy=>by
   have h1:=h.1
   unfold Ef.olZ at h1
   rw[hy,Bool.and_eq_true]at h1
   have:=h1.2
   simp at this
   omega
  refine⟨List.pairwise_cons.2 ⟨fun x hx=>ih.2 a rfl x hx,ih.1⟩,fun y hy x hx=> ?_⟩
  rcases List.mem_cons.1 hx with rfl|hx
  ·exact ha y hy
  ·exact Nat.le_trans (ha y hy) (ih.2 a rfl x hx)
theorem akZb{bound:Nat}{l:List Nat}(hb:bound<=20000)(hm:ycZ bound none l=true)(hn:l.length<=bound):(efO bound l).length<=45010:=by
 unfold efO
 split
 ·have:=rZ (x:=0) (by omega)
  omega
 ·rename_i h0
  have h1:1<=l.length:=List.length_pos_iff.2 h0
  have hq:1<=bound / l.length:=(Nat.one_le_div_iff (by omega)).2 hn
  have hW:efW bound l.length<=14:=by
   refine Decidable.byContradiction fun h=> ?_
   have h2:2 ^ 15<=2 ^ efW bound l.length:=Nat.pow_le_pow_right (by omega) (by omega)
   have h3:=Ef.wkZ (q:=bound / l.length) (by omega)
   have h4:bound / l.length<=bound:=Nat.div_le_self _ _
   unfold efW at h2
   omega
  have hn2:=rZ (x:=l.length) (by omega)
  have hlow:=fgZ (efW bound l.length) l
  have hlw:l.length*efW bound l.length<=20000*14:=Nat.mul_le_mul (by omega) hW
  have hlt:=kiZ bound l none hm
  have hp:=(fnZ bound l none hm).1
  have hhi:=enZ (l.map (·/ 2 ^ efW bound l.length)) 0 bound (by omega) (fun x hx=>by
   obtain⟨y,hy,rfl⟩:=List.mem_map.1 hx
   exact⟨Nat.zero_le _,Nat.le_trans (Nat.div_le_self _ _) (by have:=hlt y hy;omega)⟩) (List.Pairwise.map _ (fun a b h=>Nat.div_le_div_right h) hp)
  rw[List.length_map]at hhi
  rw[List.length_append,bytesOf_length]
  unfold uhZ
  rw[List.length_append,hlow]
  omega
theorem dwZ:∀ (bound:Nat) (l:List Nat) (u:Option Nat),ycZ bound u l=true->l.length+(match u with|none=>0|some y=>y+1)<=bound∨l= []
 |_,[],_,_=> .inr rfl
 |bound,a :: t,u,h=>by
  have h':=h
  rw[ycZ,Bool.and_eq_true]at h'
  have hlt:=kiZ bound (a :: t) u h a List.mem_cons_self
  have h1:=h'.1
  unfold Ef.olZ at h1
  rw[Bool.and_eq_true]at h1
  refine .inl ?_
  rcases dwZ bound t (some a) h'.2 with ih|ih
  ·simp only at ih
   cases u with
   |none=>simp only[List.length_cons];omega
   |some y=>
    have:=h1.2
    simp at this
    simp only[List.length_cons]
    omega
  ·subst ih
   cases u with
   |none=>simp only[List.length_cons,List.length_nil];omega
   |some y=>
    have:=h1.2
    simp at this
    simp only[List.length_cons,List.length_nil]
    omega
theorem sqZ{bound:Nat}{l:List Nat}(h:ycZ bound none l=true)(h0:l≠ []):1<=l.length/\l.length<=bound:=by
 have h1:1<=l.length:=List.length_pos_iff.2 h0
 rcases dwZ bound l none h with h2|h2
 ·exact⟨h1,by simpa using h2⟩
 ·exact absurd h2 h0
def tnZ(bound:Nat)(ls:List (List Nat)):Bool:=ls.all (ycZ bound none)
theorem gtZ{bound:Nat}{ls:List (List Nat)}(h:tnZ bound ls=true){k:Nat}{x:List Nat}(hx:ls[k]? =some x):ycZ bound none x=true:=List.all_eq_true.1 h x (List.mem_of_getElem? hx)
theorem zaZb{bound:Nat}{ls:List (List Nat)}(hb:bound<=20000)(h0:∀l∈ls,l≠ [])(hm:tnZ bound ls=true):(hdZ bound ls).length<=45010*ls.length:=by
 induction ls with
 |nil=>simp[hdZ]
 |cons x t ih=>
  unfold tnZ at hm ih
  rw[List.all_cons,Bool.and_eq_true]at hm
  have ih:=ih (fun l hl=>h0 l (List.mem_cons_of_mem _ hl)) hm.2
  have hx:=akZb hb hm.1 (sqZ hm.1 (h0 x List.mem_cons_self)).2
  unfold hdZ at ih ⊢
  rw[List.flatMap_cons,List.length_append,List.length_cons]
  omega
theorem zdZb{size:Nat}{l:List Str}(hm:nlZ l=true)(h1:1<=size)(h2:size<=64)(hN:l.length<=20000):(agZ size l).length<=820010:=by
 have hs:∀s∈l,s.length<=25:=fun s hs=>(ijZ hm s hs).2
 have a:=snZ hs h2 (by omega) (nCh size l.length)
 have b:=dmZ hs h1 (nCh size l.length)
 have c:=rqZ (n:=l.length) h1
 have e:agZ size l=hdB size l (nCh size l.length)++bdB size l (nCh size l.length):=qpZ h1 l
 rw[e,List.length_append]
 omega
theorem IxAt.step{w w':World}{base:Nat}{vT vL:Value}{vals:List Value}{ts:List Str}{ls:List (List Nat)}(h:IxAt w base vT vL vals ts ls)(hb:Below w.heap.size w w'):IxAt w' base vT vL vals ts ls:=
 ⟨eZ h.t fun y hy=>hb.block y (World.ownsRow.lt h.t y hy).2,eZ h.l fun y hy=>hb.block y (World.ownsRow.lt h.l y hy).2,fun i v ids hv hi=>eZ (h.r i v ids hv hi) fun y hy=>hb.block y (World.ownsRow.lt (h.r i v ids hv hi) y hy).2⟩
theorem IxAt.len{w:World}{base:Nat}{vT vL:Value}{vals:List Value}{ts:List Str}{ls:List (List Nat)}(h:IxAt w base vT vL vals ts ls):vals.length=ls.length:=by have:=h.l.1;omega
end Go.Proofs.YtbgoibedicbkjaaGreatDoor.Idx
namespace Go.Proofs.YtbgoibedicbkjaaGreatDoor.Body
open Recs Opts Crc Idx
open Go.Proofs.YtbgoibedicbkjaaGreatDoor.NumPut (nZ rZ ucZ)
open Go.Proofs.YtbgoibedicbkjaaGreatDoor.Block (igZ)
open Go.Proofs.YtbgoibedicbkjaaGreatDoor.One (xlZ ylZ zlZ akZ)
def nfZ(wh pl:Bool):List Nat->List Rec->List (List Nat)
 | [],_=> []
 |c :: t,l=>igZ (ifZ wh (l.take c)) pl :: nfZ wh pl t (l.drop c)
def rcZ(o:Opt)(l:List Rec):List Nat:=jfZ o.block.toNat (vdZ false l)
def cbZ:List Nat->List Nat->List Nat
 |a :: g,b :: s=>nZ a++(nZ b++cbZ g s)
 |_,_=> []
def dbZ(b:List Nat):List Nat:=b++tbZ (bcZ b)
def rfZ(n:Nat)(G S:List Nat)(x y:Nat):List Nat:=nZ n++(nZ G.length++(cbZ G S++(nZ x++nZ y)))
def aeZ(n:Nat)(G:List Nat)(FS:List (List Nat))(cols idx:List Nat):List Nat:=
 FS.flatten++(dbZ cols++(dbZ idx++(dbZ (rfZ n G (FS.map List.length) (dbZ cols).length (dbZ idx).length)++xeZ (dbZ (rfZ n G (FS.map List.length) (dbZ cols).length (dbZ idx).length)).length)))
def ixR(o:Opt)(l:List Rec):List Nat:=ixO o.bucket.toNat l.length (obZ (l.map abZ)) ((obZ (l.map abZ)).map (weZ (l.map abZ)))
def aiZ(o:Opt)(l:List Rec):List Nat:=aeZ l.length (rcZ o l) (nfZ false o.plain (rcZ o l) l) (bgZ l) (ixR o l)
theorem tcZ(b:List Nat):(dbZ b).length=b.length+4:=by unfold dbZ;rw[List.length_append];rfl
theorem srZ{b:List Nat}(h:∀x∈b,x<=255):∀x∈dbZ b,x<=255:=fun x hx=>by
 rcases List.mem_append.1 hx with hx|hx
 ·exact h x hx
 ·have:=kmZ _ x hx;omega
theorem loZ:∀ (g s:List Nat) (a b:Nat),g.length=s.length->cbZ (g++ [a]) (s++ [b])=cbZ g s++(nZ a++nZ b)
 | [],[],a,b,_=>by simp[cbZ]
 |x :: g,y :: s,a,b,h=>by
  rw[List.cons_append,List.cons_append,cbZ,loZ g s a b (by simpa using h),cbZ]
  simp only[List.append_assoc]
 | [],_ :: _,_,_,h=>by simp at h
 |_ :: _,[],_,_,h=>by simp at h
theorem moZ{g s:List Nat}{k a b:Nat}(ha:g[k]? =some a)(hb:s[k]? =some b):cbZ (g.take (k+1)) (s.take (k+1))=cbZ (g.take k) (s.take k)++(nZ a++nZ b):=by
 obtain⟨hk,_⟩:=List.getElem?_eq_some_iff.1 ha
 obtain⟨hk2,_⟩:=List.getElem?_eq_some_iff.1 hb
 rw[List.take_add_one,ha,List.take_add_one,hb]
 exact loZ _ _ a b (by rw[List.length_take,List.length_take];omega)
theorem tqZ:∀ (g s:List Nat),(∀x∈g,x<18446744073709551616)->(∀x∈s,x<18446744073709551616)->(cbZ g s).length<=20*g.length
 | [],_,_,_=>by simp[cbZ]
 |_ :: _,[],_,_=>by simp[cbZ]
 |x :: g,y :: s,h1,h2=>by
  have a:=rZ (h1 x List.mem_cons_self)
  have b:=rZ (h2 y List.mem_cons_self)
  have c:=tqZ g s (fun z hz=>h1 z (List.mem_cons_of_mem _ hz)) (fun z hz=>h2 z (List.mem_cons_of_mem _ hz))
  rw[cbZ,List.length_append,List.length_append,List.length_cons]
  omega
theorem htZ:∀ (g s:List Nat),∀x∈cbZ g s,x<=255
 | [],_,x,h=>by simp[cbZ]at h
 |_ :: _,[],x,h=>by simp[cbZ]at h
 |a :: g,b :: s,x,h=>by
  rw[cbZ]at h
  rcases List.mem_append.1 h with h|h
  ·exact ucZ _ x h
  ·rcases List.mem_append.1 h with h|h
   ·exact ucZ _ x h
   ·exact htZ g s x h
theorem trZ(n:Nat)(G S:List Nat)(x y:Nat):∀z∈rfZ n G S x y,z<=255:=fun z h=>by
 unfold rfZ at h
 simp only[List.mem_append]at h
 rcases h with h|h|h|h|h
 ·exact ucZ _ z h
 ·exact ucZ _ z h
 ·exact htZ _ _ z h
 ·exact ucZ _ z h
 ·exact ucZ _ z h
theorem ewZ{n:Nat}{G S:List Nat}{x y:Nat}(hn:n<=1000000000)(hg:G.length<=1000000000)(h1:∀z∈G,z<=1000000000)(h2:∀z∈S,z<=1000000000)(hx:x<=1000000000)(hy:y<=1000000000):(rfZ n G S x y).length<=40+20*G.length:=by
 have a:=rZ (x:=n) (by omega)
 have b:=rZ (x:=G.length) (by omega)
 have c:=rZ (x:=x) (by omega)
 have d:=rZ (x:=y) (by omega)
 have e:=tqZ G S (fun z hz=>by have:=h1 z hz;omega) (fun z hz=>by have:=h2 z hz;omega)
 unfold rfZ
 simp only[List.length_append]
 omega
theorem rkZ(wh pl:Bool):∀ (cs:List Nat) (l:List Rec),(ifZ wh l).length<=16000->(nfZ wh pl cs l).flatten.length<=(ifZ wh l).length+25*cs.length
 | [],_,_=>by simp[nfZ]
 |c :: t,l,h=>by
  have hs:=One.bkZ wh l c
  have ih:=rkZ wh pl t (l.drop c) (by omega)
  have hf:=One.bdZb (bs:=ifZ wh (l.take c)) pl (by omega)
  rw[nfZ,List.flatten_cons,List.length_append,List.length_cons]
  omega
theorem noZ(o:Opt)(l:List Rec):(rcZ o l).sum=l.length:=by unfold rcZ;rw[xlZ,akZ]
theorem ooZ(o:Opt)(l:List Rec):(rcZ o l).length<=l.length:=by
 have:=zlZ (ylZ o.block.toNat (vdZ false l))
 rw[xlZ,akZ]at this
 exact this
theorem le_sum:∀ {l:List Nat} {x:Nat},x∈l->x<=l.sum
 |y :: t,x,h=>by
  rw[List.sum_cons]
  rcases List.mem_cons.1 h with rfl|h
  ·omega
  ·have:=le_sum h;omega
end Go.Proofs.YtbgoibedicbkjaaGreatDoor.Body
namespace Go.Proofs.YtbgoibedicbkjaaGreatDoor.Body
open Go.RowKit Mem Own Canon Recs
open NumPut
open Go.Proofs.YtbgoibedicbkjaaGreatDoor.Block (oZ)
theorem upZ{l:List Nat}{k x:Nat}(h:l[k]? =some x):(l.take (k+1)).sum=(l.take k).sum+x:=by
 rw[List.take_add_one,h]
 simp
theorem skZ(l:List Nat)(k:Nat):(l.take k).sum<=l.sum:=by
 conv=>rhs;rw[<-List.take_append_drop k l]
 rw[List.sum_append]
 omega
theorem zkZ(w:World)(A:Option Addr)(n c:Nat)(ls:List Nat)(hn:ls.length=n)(hN:n<=1000000)(hs:ls.sum<=1000000000000000)(ha:Row w w.heap.size A n 1 (mZ .i64 ls)):
 Calls Tryz.prog 107 #[.slice A n c] w fun e w'=>e= .returned (.int .i64 (ls.sum:Nat))/\w'=w:=by
 have HN:=hid hn
 obtain⟨R,hR⟩:∃R,R=ls.sum:=⟨_,rfl⟩
 have HR:=hid hR
 rw[<-hR]at hs ⊢
 clear hn hR
 go_enter Tryz.func107,Tryz.ntmps107
 go_wp2_with fail
 go_loopw [3,8] (fun sv iv wx=>∃k s:Nat,k<=n/\s<=R/\iv= .int .i64 k/\sv= .int .i64 s/\Hid (s=(ls.take k).sum)/\wx=w) (fun _ iv _=>n-(intOf iv).toNat)
 case atStart=>exact⟨0,0,by omega,by omega,rfl,rfl,rfl,rfl⟩
 case round=>
  obtain⟨k,s,hk,hsR,rfl,rfl,HS,rfl⟩:=hrel
  by_cases hlt:k<n
  ·have gk:decide ((k:Int)<(n:Int))=true:=by simp;omega
   have gk':decide (k<n)=true:=by simp;omega
   have x0:(0:Int)<=(k:Int):=by omega
   have x1:(k:Int)<(n:Int):=by omega
   obtain⟨b,off,x,rfl,_,hx,ck⟩:=kbZ ha HN.out hlt
   have hst:=upZ hx
   have hle:=skZ ls (k+1)
   rw[hst,<-HS.out,<-HR.out]at hle
   have HS2:Hid (s+x=(ls.take (k+1)).sum):=by show _=_;rw[hst,HS.out]
   have s1:IntKind.i64.wrap ((s:Int)+(x:Int))=((s+x:Nat):Int):=by rw[IntWalk.i64_in _ (by omega)];omega
   clear hst hx HS
   go_wp2_with fail
   go_roundw
   case measure=>go_light;simp[intOf];omega
   case rel=>go_light;exact⟨k+1,s+x,by omega,hle,by first|rfl|go_num,by first|rfl|go_num,HS2.out,by first|rfl|trivial⟩
  ·obtain rfl:k=n:=by omega
   have gk:decide ((k:Int)<(k:Int))=false:=by simp
   have gk':decide (k<k)=false:=by simp
   have hsr:s=R:=by rw[HS.out,HR.out,List.take_of_length_le (by rw[HN.out];exact Nat.le_refl _)]
   subst hsr
   clear HS HR hlt
   go_wp2_with fail
   go_ret
   exact⟨rfl,rfl⟩
theorem sum_any(w:World)(A:Option Addr)(n c:Nat)(ls:List Nat)(hn:ls.length=n)(hN:n<=1000000)(hs:ls.sum<=1000000000)(ha:Row w w.heap.size A n 1 (mZ .i64 ls)):
 Calls Tryz.prog 107 #[.slice A n c] w fun e w'=>e= .returned (.int .i64 (ls.sum:Nat))/\w'=w:=zkZ w A n c ls hn hN (by omega) ha
theorem fwZ(w:World)(db g cG cS x y base:Nat)(AG AS:Option Addr)(G S:List Nat)(hg:G.length=g)(hs:S.length=g)(hgl:g<=20000)(hG:G.sum<=1000000000)(hS:∀z∈S,z<=1000000000)(hx:x<=1000000000)(hy:y<=1000000000)
 (hb:Blk w db 92 #[.slice AG g cG, .slice AS g cS, .int .i64 (x:Nat), .int .i64 (y:Nat)])(hrG:Row w base AG g 1 (mZ .i64 G))(hrS:Row w base AS g 1 (mZ .i64 S))(hbase:base<=w.heap.size):
 Calls Tryz.prog 57 #[.pointer (some ⟨db,0,none⟩)] w fun e w'=>∃v,e= .returned v/\w'.ownsRow w.heap.size 5 1 v (rfZ G.sum G S x y).length (cZ .u8 (rfZ G.sum G S x y))/\Below w.heap.size w w':=by
 have DS:=hid (fun wx (h:Below w.heap.size w wx)=>sum_any wx AG g cG G hg (by omega) hG (((hrG.mono hbase).below h).mono h.size))
 have D1:=hid (fun wx=>pcZ wx G.sum (by omega))
 have D2:=hid (fun wx=>pcZ wx g (by omega))
 have l1:=rZ (x:=G.sum) (by omega)
 have l2:=rZ (x:=g) (by omega)
 have hDP:rfZ G.sum G S x y=nZ G.sum++(nZ g++(cbZ G S++(nZ x++nZ y))):=by unfold rfZ;rw[hg]
 obtain⟨s,hss⟩:∃s,s=G.sum:=⟨_,rfl⟩
 rw[<-hss]at DS D1 l1 hG hDP ⊢
 have HDP:=hid hDP
 have u1:IntKind.u64.wrap (s:Int)=(s:Int):=by rw[IntKind.wrap_u64];omega
 have u2:IntKind.u64.wrap (g:Int)=(g:Int):=by rw[IntKind.wrap_u64];omega
 have hGl:∀z∈G,z<=1000000000:=fun z hz=>Nat.le_trans (le_sum hz) (by omega)
 have HGL:=hid hGl
 have HSL:=hid hS
 have HG:=hid hg
 have HS:=hid hs
 have HRG:Hid (Row w base AG g 1 (mZ .i64 G)):=hrG
 have HRS:Hid (Row w base AS g 1 (mZ .i64 S)):=hrS
 have HBK:=hid hb
 have HC:Hid (∀wx,Below w.heap.size w wx->wx.cell? ⟨db,0,none⟩=some (.slice AG g cG)):=fun wx h=>(hb.step h).cell 0
 have HSS:=hid hss
 have c0:=hb.cell 0
 have hdb:=hb.lt
 simp only[List.getElem?_toArray,List.getElem?_cons_zero]at c0
 clear hg hs hS hDP hb hrG hrS hGl hss
 generalize nZ s=N1 at *
 generalize nZ g=N2 at *
 have hs2:∀a1 a2 a3 a4,xcZ [(⟨a1,a2,N1⟩:Part),⟨a3,a4,N2⟩]<=1000000:=fun _ _ _ _=>by simp[xcZ];omega
 go_enter Tryz.func57,Tryz.ntmps57
 go_upto_region 1 with fail
 go_cut [3] (fun v wx=>Hid (wx.ownsRow w.heap.size 5 1 v (N1.length+N2.length) (cZ .u8 (N1++N2)))/\Hid (Below w.heap.size w wx))
 case first=>
  go_region_held3 (fun wx=>wx.cell? ⟨db,0,none⟩=some (.slice AG g cG)) (first|exact HC.out _ ((Below.refl _ _).drew)|(refine HC.out _ ?_;(repeat(first|(with_reducible first|exact Below.refl _ _|assumption|refine Below.drew ?_|refine below_drewN ?_ _|refine aZ ?_|refine dZ (by assumption) ?_)|((with_reducible first|refine fZ ?_ ?_|refine gZ ?_ ?_|refine iZ (by assumption) ?_ ?_);(focus(first|(simp;done)|(simp;omega)|omega|(simp at *;omega)))))))) (first|(go_at_call 107;(with_reducible refine(DS.out _ (by(repeat(first|(with_reducible first|exact Below.refl _ _|assumption|refine Below.drew ?_|refine below_drewN ?_ _|refine aZ ?_|refine dZ (by assumption) ?_)|((with_reducible first|refine fZ ?_ ?_|refine gZ ?_ ?_|refine iZ (by assumption) ?_ ?_);(focus(first|(simp;done)|(simp;omega)|omega|(simp at *;omega)))))))).mono ?_);rintro e wF ⟨rfl,rfl⟩)|(go_at_call 98;first|((with_reducible refine(D1.out _).mono ?_);rintro e wA ⟨vA,rfl,hoA,hbA⟩;obtain⟨AA,cA,rfl⟩:=bZ hoA;have PA:Part.Ok (⟨AA,cA,N1⟩:Part) wA:=oZ hoA rfl)|((with_reducible refine(D2.out _).mono ?_);rintro e wB ⟨vB,rfl,hoB,hbB⟩;obtain⟨AB,cB,rfl⟩:=bZ hoB;have PB:Part.Ok (⟨AB,cB,N2⟩:Part) wB:=oZ hoB rfl))|(go_at_call 59;(refine(ffZ _ _ 2 [(⟨AA,cA,N1⟩:Part),(⟨AB,cB,N2⟩:Part)] rfl (by omega) (hs2 _ _ _ _) (fun p hp=>by{rcases List.mem_cons.1 hp with rfl|hp;exact PA.step (by(repeat(first|(with_reducible first|exact Below.refl _ _|assumption|refine Below.drew ?_|refine below_drewN ?_ _|refine aZ ?_|refine dZ (by assumption) ?_)|((with_reducible first|refine fZ ?_ ?_|refine gZ ?_ ?_|refine iZ (by assumption) ?_ ?_);(focus(first|(simp;done)|(simp;omega)|omega|(simp at *;omega)))))));rcases List.mem_cons.1 hp with rfl|hp;exact PB.step (by(repeat(first|(with_reducible first|exact Below.refl _ _|assumption|refine Below.drew ?_|refine below_drewN ?_ _|refine aZ ?_|refine dZ (by assumption) ?_)|((with_reducible first|refine fZ ?_ ?_|refine gZ ?_ ?_|refine iZ (by assumption) ?_ ?_);(focus(first|(simp;done)|(simp;omega)|omega|(simp at *;omega)))))));cases hp}) (by first|exact Blk.made _ _ _|exact Blk.made_at _ _ _ (by simp)|exact Blk.drew (Blk.made _ _ _)|exact Blk.drew (Blk.made_at _ _ _ (by simp)))).mono ?_);rintro e w7 ⟨v7,rfl,ho7,hb7⟩;obtain⟨A7,c7,rfl⟩:=bZ ho7;have B7:Below w.heap.size w w7:=dZ hb7 (by(repeat(first|(with_reducible first|exact Below.refl _ _|assumption|refine Below.drew ?_|refine below_drewN ?_ _|refine aZ ?_|refine dZ (by assumption) ?_)|((with_reducible first|refine fZ ?_ ?_|refine gZ ?_ ?_|refine iZ (by assumption) ?_ ?_);(focus(first|(simp;done)|(simp;omega)|omega|(simp at *;omega)))))))))
  all_goals
   have HO7:Hid (w7.ownsRow w.heap.size 5 1 (.slice A7 (N1.length+N2.length) c7) (N1.length+N2.length) (cZ .u8 (N1++N2))):=by
    have h:=lZ ho7 (show w.heap.size<=_ from Below.size (by(repeat(first|(with_reducible first|exact Below.refl _ _|assumption|refine Below.drew ?_|refine below_drewN ?_ _|refine aZ ?_|refine dZ (by assumption) ?_)|((with_reducible first|refine fZ ?_ ?_|refine gZ ?_ ?_|refine iZ (by assumption) ?_ ?_);(focus(first|(simp;done)|(simp;omega)|omega|(simp at *;omega))))))))
    simp only[List.flatMap_cons,List.flatMap_nil,List.append_nil,List.length_append]at h
    exact h
   have HB7:=hid B7
   go_wp2_with fail
   go_meet
   case rel=>go_light;exact⟨HO7.out,HB7.out⟩
 case rest=>
  obtain⟨HO9,HB9⟩:=hcut
  have c0':=HC.out _ HB9.out
  clear c0
  go_wp2_with fail
  have HO0:Hid (wc.ownsRow w.heap.size 5 1 u3 (N1++N2++cbZ (G.take 0) (S.take 0)).length (cZ .u8 (N1++N2++cbZ (G.take 0) (S.take 0)))):=by
   have e:N1++N2++cbZ (G.take 0) (S.take 0)=N1++N2:=by simp[cbZ]
   show World.ownsRow _ _ _ _ _ _ _
   rw[e,List.length_append]
   exact HO9.out
  have HL0:Hid ((N1++N2++cbZ (G.take 0) (S.take 0)).length<=20+20*0):=by
   show _<=_
   simp[cbZ]
   omega
  clear c0' HO9
  go_loopw [3,27] (fun ov iv wr=>∃k:Nat,k<=g/\iv= .int .i64 k/\Hid (wr.ownsRow w.heap.size 5 1 ov (N1++N2++cbZ (G.take k) (S.take k)).length (cZ .u8 (N1++N2++cbZ (G.take k) (S.take k))))/\Hid ((N1++N2++cbZ (G.take k) (S.take k)).length<=20+20*k)/\Hid (Below w.heap.size w wr)) (fun _ iv _=>g-(intOf iv).toNat)
  case atStart=>exact⟨0,by omega,rfl,HO0.out,HL0.out,HB9.out⟩
  case round=>
   obtain⟨k,hk,rfl,HO,HL,HB⟩:=hrel
   clear HO0 HL0 HB9
   obtain⟨wi,rfl⟩:∃wi:World,wi=wr:=⟨_,rfl⟩
   have hz:=HB.out.size
   by_cases hlt:k<g
   ·have gk:decide ((k:Int)<(g:Int))=true:=by simp;omega
    have gk':decide (k<g)=true:=by simp;omega
    obtain⟨A3,c3,rfl⟩:=bZ HO.out
    have x0:(0:Int)<=(k:Int):=by omega
    have x1:(k:Int)<(g:Int):=by omega
    obtain⟨bg,og,n,rfl,hbg,hn,cn⟩:=kbZ (HRG.out.keep fun p hp=>HB.out.cell (p:=p) (Nat.lt_of_lt_of_le hp hbase)) HG.out hlt
    obtain⟨bs,os,z,rfl,hbs,hz',cz⟩:=kbZ (HRS.out.keep fun p hp=>HB.out.cell (p:=p) (Nat.lt_of_lt_of_le hp hbase)) HS.out hlt
    have hnl:=HGL.out n (List.mem_of_getElem? hn)
    have hzl:=HSL.out z (List.mem_of_getElem? hz')
    have hst:=moZ hn hz'
    have DA:=hid (fun wx=>pcZ wx n (by omega))
    have DB:=hid (fun wx=>pcZ wx z (by omega))
    have u3:IntKind.u64.wrap (n:Int)=(n:Int):=by rw[IntKind.wrap_u64];omega
    have u4:IntKind.u64.wrap (z:Int)=(z:Int):=by rw[IntKind.wrap_u64];omega
    have la:=rZ (x:=n) (by omega)
    have lb:=rZ (x:=z) (by omega)
    have HC2:Hid (∀wx,Below wi.heap.size wi wx->wx.cell? ⟨db,1,none⟩=some (.slice (some ⟨bs,os,none⟩) g cS)/\wx.cell? ⟨bs,os+k,none⟩=some (.int .i64 (z:Nat))):=fun wx h=>⟨((HBK.out.step HB.out).step h).cell 1,(h.cell (p:=⟨bs,os+k,none⟩) (by show bs<_;omega)).trans cz⟩
    have PO:Hid (∀wx,Below wi.heap.size wi wx->Part.Ok (⟨A3,c3,N1++N2++cbZ (G.take k) (S.take k)⟩:Part) wx):=fun wx hb=>(oZ HO.out rfl).step hb
    generalize nZ n=NA at *
    generalize nZ z=NB at *
    have HSE:Hid (N1++N2++cbZ (G.take (k+1)) (S.take (k+1))=N1++N2++cbZ (G.take k) (S.take k)++(NA++NB)):=by show _=_;rw[hst];simp only[List.append_assoc]
    have hol:=HL.out
    generalize N1++N2++cbZ (G.take k) (S.take k)=OUT at *
    have hs3:∀a1 a2 a3 a4 a5 a6,xcZ [(⟨a1,a2,OUT⟩:Part),⟨a3,a4,NA⟩,⟨a5,a6,NB⟩]<=1000000:=fun _ _ _ _ _ _=>by simp[xcZ];omega
    have c1:=(HC2.out wi (Below.refl _ _)).1
    clear hn hz' hst hnl hzl
    go_upto_region 5 with fail
    go_region_held3 (fun wx=>wx.cell? ⟨db,1,none⟩=some (.slice (some ⟨bs,os,none⟩) g cS)/\wx.cell? ⟨bs,os+k,none⟩=some (.int .i64 (z:Nat))) (first|exact HC2.out _ ((Below.refl _ _).drew)|(refine HC2.out _ ?_;(repeat(first|(with_reducible first|exact Below.refl _ _|assumption|refine Below.drew ?_|refine below_drewN ?_ _|refine aZ ?_|refine dZ (by assumption) ?_)|((with_reducible first|refine fZ ?_ ?_|refine gZ ?_ ?_|refine iZ (by assumption) ?_ ?_);(focus(first|(simp;done)|(simp;omega)|omega|(simp at *;omega)))))))) (first|(go_at_call 98;first|((with_reducible refine(DA.out _).mono ?_);rintro e wA ⟨vA,rfl,hoA,hbA⟩;obtain⟨AA,cA,rfl⟩:=bZ hoA;have PA:Part.Ok (⟨AA,cA,NA⟩:Part) wA:=oZ hoA rfl)|((with_reducible refine(DB.out _).mono ?_);rintro e wB ⟨vB,rfl,hoB,hbB⟩;obtain⟨AB,cB,rfl⟩:=bZ hoB;have PB:Part.Ok (⟨AB,cB,NB⟩:Part) wB:=oZ hoB rfl))|(go_at_call 59;(refine(ffZ _ _ 3 [(⟨A3,c3,OUT⟩:Part),(⟨AA,cA,NA⟩:Part),(⟨AB,cB,NB⟩:Part)] rfl (by omega) (hs3 _ _ _ _ _ _) (fun p hp=>by{rcases List.mem_cons.1 hp with rfl|hp;exact PO.out _ (by(repeat(first|(with_reducible first|exact Below.refl _ _|assumption|refine Below.drew ?_|refine below_drewN ?_ _|refine aZ ?_|refine dZ (by assumption) ?_)|((with_reducible first|refine fZ ?_ ?_|refine gZ ?_ ?_|refine iZ (by assumption) ?_ ?_);(focus(first|(simp;done)|(simp;omega)|omega|(simp at *;omega)))))));rcases List.mem_cons.1 hp with rfl|hp;exact PA.step (by(repeat(first|(with_reducible first|exact Below.refl _ _|assumption|refine Below.drew ?_|refine below_drewN ?_ _|refine aZ ?_|refine dZ (by assumption) ?_)|((with_reducible first|refine fZ ?_ ?_|refine gZ ?_ ?_|refine iZ (by assumption) ?_ ?_);(focus(first|(simp;done)|(simp;omega)|omega|(simp at *;omega)))))));rcases List.mem_cons.1 hp with rfl|hp;exact PB.step (by(repeat(first|(with_reducible first|exact Below.refl _ _|assumption|refine Below.drew ?_|refine below_drewN ?_ _|refine aZ ?_|refine dZ (by assumption) ?_)|((with_reducible first|refine fZ ?_ ?_|refine gZ ?_ ?_|refine iZ (by assumption) ?_ ?_);(focus(first|(simp;done)|(simp;omega)|omega|(simp at *;omega)))))));cases hp}) (by first|exact Blk.made _ _ _|exact Blk.made_at _ _ _ (by simp)|exact Blk.drew (Blk.made _ _ _)|exact Blk.drew (Blk.made_at _ _ _ (by simp)))).mono ?_);rintro e w7 ⟨v7,rfl,ho7,hb7⟩;obtain⟨A7,c7,rfl⟩:=bZ ho7;have B7:Below wi.heap.size wi w7:=dZ hb7 (by(repeat(first|(with_reducible first|exact Below.refl _ _|assumption|refine Below.drew ?_|refine below_drewN ?_ _|refine aZ ?_|refine dZ (by assumption) ?_)|((with_reducible first|refine fZ ?_ ?_|refine gZ ?_ ?_|refine iZ (by assumption) ?_ ?_);(focus(first|(simp;done)|(simp;omega)|omega|(simp at *;omega)))))))))
    all_goals
     have HO7:Hid (w7.ownsRow w.heap.size 5 1 (.slice A7 (OUT.length+(NA.length+NB.length)) c7) (OUT.length+(NA.length+NB.length)) (cZ .u8 (OUT++(NA++NB)))):=by
      have h:=lZ ho7 (show w.heap.size<=_ from Nat.le_trans hz (Below.size (by(repeat(first|(with_reducible first|exact Below.refl _ _|assumption|refine Below.drew ?_|refine below_drewN ?_ _|refine aZ ?_|refine dZ (by assumption) ?_)|((with_reducible first|refine fZ ?_ ?_|refine gZ ?_ ?_|refine iZ (by assumption) ?_ ?_);(focus(first|(simp;done)|(simp;omega)|omega|(simp at *;omega)))))))))
      simp only[List.flatMap_cons,List.flatMap_nil,List.append_nil,List.length_append]at h
      exact h
     have HB7:Hid (Below w.heap.size w w7):=iZ B7 hz HB.out
     have HL7:Hid ((OUT++(NA++NB)).length<=20+20*(k+1)):=by show _<=_;rw[List.length_append,List.length_append];omega
     clear ho7 hb7 PA PB B7 HO HB HL PO hoA hoB hbA hbB HC2 cn cz c1
     go_wp2_with fail
     go_roundw
     case measure=>go_light;simp[intOf];omega
     case rel=>go_light;exact⟨k+1,by omega,by first|rfl|go_num,by rw[HSE.out,List.length_append,List.length_append];exact HO7.out,by rw[HSE.out];exact HL7.out,HB7.out⟩
   ·obtain rfl:k=g:=by omega
    have gk:decide ((k:Int)<(k:Int))=false:=by simp
    have gk':decide (k<k)=false:=by simp
    have eG:G.take k=G:=List.take_of_length_le (by rw[HG.out];exact Nat.le_refl _)
    have eS:S.take k=S:=List.take_of_length_le (by rw[HS.out];exact Nat.le_refl _)
    rw[eG,eS]at HO HL
    obtain⟨A3,c3,rfl⟩:=bZ HO.out
    have DA:=hid (fun wx=>pcZ wx x (by omega))
    have DB:=hid (fun wx=>pcZ wx y (by omega))
    have u3:IntKind.u64.wrap (x:Int)=(x:Int):=by rw[IntKind.wrap_u64];omega
    have u4:IntKind.u64.wrap (y:Int)=(y:Int):=by rw[IntKind.wrap_u64];omega
    have la:=rZ (x:=x) (by omega)
    have lb:=rZ (x:=y) (by omega)
    have HC2:Hid (∀wx,Below wi.heap.size wi wx->wx.cell? ⟨db,2,none⟩=some (.int .i64 (x:Nat))/\wx.cell? ⟨db,3,none⟩=some (.int .i64 (y:Nat))):=fun wx h=>⟨((HBK.out.step HB.out).step h).cell 2,((HBK.out.step HB.out).step h).cell 3⟩
    have PO:Hid (∀wx,Below wi.heap.size wi wx->Part.Ok (⟨A3,c3,N1++N2++cbZ G S⟩:Part) wx):=fun wx hb=>(oZ HO.out rfl).step hb
    generalize nZ x=NA at *
    generalize nZ y=NB at *
    have hol:=HL.out
    have HSE:Hid (rfZ s G S x y=N1++N2++cbZ G S++(NA++NB)):=by show _=_;rw[HDP.out];simp only[List.append_assoc]
    generalize N1++N2++cbZ G S=OUT at *
    have hs3:∀a1 a2 a3 a4 a5 a6,xcZ [(⟨a1,a2,OUT⟩:Part),⟨a3,a4,NA⟩,⟨a5,a6,NB⟩]<=1000000:=fun _ _ _ _ _ _=>by simp[xcZ];omega
    clear eG eS HDP
    go_upto_region 7 with fail
    go_region_held3 (fun wx=>wx.cell? ⟨db,2,none⟩=some (.int .i64 (x:Nat))/\wx.cell? ⟨db,3,none⟩=some (.int .i64 (y:Nat))) (first|exact HC2.out _ ((Below.refl _ _).drew)|(refine HC2.out _ ?_;(repeat(first|(with_reducible first|exact Below.refl _ _|assumption|refine Below.drew ?_|refine below_drewN ?_ _|refine aZ ?_|refine dZ (by assumption) ?_)|((with_reducible first|refine fZ ?_ ?_|refine gZ ?_ ?_|refine iZ (by assumption) ?_ ?_);(focus(first|(simp;done)|(simp;omega)|omega|(simp at *;omega)))))))) (first|(go_at_call 98;first|((with_reducible refine(DA.out _).mono ?_);rintro e wA ⟨vA,rfl,hoA,hbA⟩;obtain⟨AA,cA,rfl⟩:=bZ hoA;have PA:Part.Ok (⟨AA,cA,NA⟩:Part) wA:=oZ hoA rfl)|((with_reducible refine(DB.out _).mono ?_);rintro e wB ⟨vB,rfl,hoB,hbB⟩;obtain⟨AB,cB,rfl⟩:=bZ hoB;have PB:Part.Ok (⟨AB,cB,NB⟩:Part) wB:=oZ hoB rfl))|(go_at_call 59;(refine(ffZ _ _ 3 [(⟨A3,c3,OUT⟩:Part),(⟨AA,cA,NA⟩:Part),(⟨AB,cB,NB⟩:Part)] rfl (by omega) (hs3 _ _ _ _ _ _) (fun p hp=>by{rcases List.mem_cons.1 hp with rfl|hp;exact PO.out _ (by(repeat(first|(with_reducible first|exact Below.refl _ _|assumption|refine Below.drew ?_|refine below_drewN ?_ _|refine aZ ?_|refine dZ (by assumption) ?_)|((with_reducible first|refine fZ ?_ ?_|refine gZ ?_ ?_|refine iZ (by assumption) ?_ ?_);(focus(first|(simp;done)|(simp;omega)|omega|(simp at *;omega)))))));rcases List.mem_cons.1 hp with rfl|hp;exact PA.step (by(repeat(first|(with_reducible first|exact Below.refl _ _|assumption|refine Below.drew ?_|refine below_drewN ?_ _|refine aZ ?_|refine dZ (by assumption) ?_)|((with_reducible first|refine fZ ?_ ?_|refine gZ ?_ ?_|refine iZ (by assumption) ?_ ?_);(focus(first|(simp;done)|(simp;omega)|omega|(simp at *;omega)))))));rcases List.mem_cons.1 hp with rfl|hp;exact PB.step (by(repeat(first|(with_reducible first|exact Below.refl _ _|assumption|refine Below.drew ?_|refine below_drewN ?_ _|refine aZ ?_|refine dZ (by assumption) ?_)|((with_reducible first|refine fZ ?_ ?_|refine gZ ?_ ?_|refine iZ (by assumption) ?_ ?_);(focus(first|(simp;done)|(simp;omega)|omega|(simp at *;omega)))))));cases hp}) (by first|exact Blk.made _ _ _|exact Blk.made_at _ _ _ (by simp)|exact Blk.drew (Blk.made _ _ _)|exact Blk.drew (Blk.made_at _ _ _ (by simp)))).mono ?_);rintro e w7 ⟨v7,rfl,ho7,hb7⟩;obtain⟨A7,c7,rfl⟩:=bZ ho7;have B7:Below wi.heap.size wi w7:=dZ hb7 (by(repeat(first|(with_reducible first|exact Below.refl _ _|assumption|refine Below.drew ?_|refine below_drewN ?_ _|refine aZ ?_|refine dZ (by assumption) ?_)|((with_reducible first|refine fZ ?_ ?_|refine gZ ?_ ?_|refine iZ (by assumption) ?_ ?_);(focus(first|(simp;done)|(simp;omega)|omega|(simp at *;omega)))))))))
    all_goals
     have HO7:Hid (w7.ownsRow w.heap.size 5 1 (.slice A7 (OUT.length+(NA.length+NB.length)) c7) (OUT.length+(NA.length+NB.length)) (cZ .u8 (OUT++(NA++NB)))):=by
      have h:=lZ ho7 (show w.heap.size<=_ from Nat.le_trans hz (Below.size (by(repeat(first|(with_reducible first|exact Below.refl _ _|assumption|refine Below.drew ?_|refine below_drewN ?_ _|refine aZ ?_|refine dZ (by assumption) ?_)|((with_reducible first|refine fZ ?_ ?_|refine gZ ?_ ?_|refine iZ (by assumption) ?_ ?_);(focus(first|(simp;done)|(simp;omega)|omega|(simp at *;omega)))))))))
      simp only[List.flatMap_cons,List.flatMap_nil,List.append_nil,List.length_append]at h
      exact h
     have HB7:Hid (Below w.heap.size w w7):=iZ B7 hz HB.out
     clear ho7 hb7 PA PB B7 HO HB HL PO hoA hoB hbA hbB HC2
     go_wp2_with fail
     go_ret
     exact⟨.slice A7 (OUT.length+(NA.length+NB.length)) c7,rfl,by rw[HSE.out,List.length_append,List.length_append];exact HO7.out,HB7.out⟩
end Go.Proofs.YtbgoibedicbkjaaGreatDoor.Body
namespace Go.Proofs.YtbgoibedicbkjaaGreatDoor.Body
open Go.RowKit Mem Own Canon Recs Idx
open Go.Proofs.YtbgoibedicbkjaaGreatDoor.One (FrsAt FrsAt.step FrsAt.grown FrsAt.snoc beZ)
open NumPut
open Go.Proofs.YtbgoibedicbkjaaGreatDoor.Ef (ycZ ujZ)
structure MSt (base db:Nat) (vG pv vS:Value) (ps:List Part) (W:World):Prop where
 dir:Blk W db 92 #[vG,vS, .int .i64 0, .int .i64 0]
 pr:W.ownsRow base 22 1 pv ps.length (ps.map Part.v)
 fr:FrsAt W base ps
 sr:W.ownsRow base 3 1 vS ps.length (cZ .i64 (ps.map fun p=>p.ls.length))
 gb:base<=db
section
variable {base db:Nat} {vG pv vS pv' vS':Value} {ps:List Part} {W w' w8 w9:World} {p:Part} {o1 o2:Obj}
theorem MSt.step(h:MSt base db vG pv vS ps W)(b:Below W.heap.size W w'):MSt base db vG pv vS ps w':=
 ⟨h.dir.step b,eZ h.pr fun y hy=>b.block y (World.ownsRow.lt h.pr y hy).2,h.fr.step b,eZ h.sr fun y hy=>b.block y (World.ownsRow.lt h.sr y hy).2,h.gb⟩
theorem MSt.stores(h:MSt base db vG pv vS ps W)(x y:Value):
 Blk ((W.setCell ⟨db,2,none⟩ x).setCell ⟨db,3,none⟩ y) db 92 #[vG,vS,x,y]/\Below base W ((W.setCell ⟨db,2,none⟩ x).setCell ⟨db,3,none⟩ y)/\
  ∀ {b s n:Nat} {e:TypeId} {v:Value} {xs:List Value},W.ownsRow b e s v n xs->e≠92->((W.setCell ⟨db,2,none⟩ x).setCell ⟨db,3,none⟩ y).ownsRow b e s v n xs:=by
 refine⟨by simpa using (h.dir.set 2 x).set 3 y,((Below.refl base W).setCell (p:=⟨db,2,none⟩) h.gb _).setCell (p:=⟨db,3,none⟩) h.gb _,fun ho hne=> ?_⟩
 refine eZ ho fun z hz=> ?_
 have hd:z≠db:=fun e=>jZ ho h.dir hne (by rw[hz,e])
 exact(Below.heap_setCell _ _ _ z hd).trans (Below.heap_setCell _ _ _ z hd)
end
theorem itZ:∀ (l:List Str) (was:Str),(∀s∈l,was<s)->(∀s∈l,1<=s.length/\s.length<=25)->gfZ l->geZ was l=true
 | [],_,_,_,_=>rfl
 |s :: t,was,h,hs,hr=>by
  obtain⟨h1,h2⟩:=List.pairwise_cons.1 hr
  rw[geZ,Bool.and_eq_true]
  refine⟨?_,itZ t s h1 (fun x hx=>hs x (List.mem_cons_of_mem _ hx)) h2⟩
  unfold dcZ
  rw[Bool.and_eq_true,Bool.and_eq_true,decide_eq_true_iff,decide_eq_true_iff,decide_eq_true_iff]
  exact⟨(hs s List.mem_cons_self).1,(hs s List.mem_cons_self).2,h s List.mem_cons_self⟩
theorem jtZ{l:List Rec}{s:Str}(h:s∈obZ (l.map abZ)):1<=s.length/\s.length<=25:=by
 obtain⟨t,ht,hs⟩:=(puZ s _).1 h
 obtain⟨r,_,rfl⟩:=List.mem_map.1 ht
 exact yaZb hs
theorem izZ{l:List Rec}(h:(obZ (l.map abZ)).length<=1048576):nlZ (obZ (l.map abZ))=true:=by
 unfold nlZ
 rw[Bool.and_eq_true]
 refine⟨itZ _ _ (fun s hs=> ?_) (fun s hs=>jtZ hs) (coZ _),decide_eq_true h⟩
 have:=(jtZ hs).1
 cases s with
 |nil=>simp at this
 |cons x t=>exact List.nil_lt_cons x t
theorem bkZb(ts:List (List Str))(u:Str):ycZ ts.length none (weZ ts u)=true:=by
 refine ujZ _ _ none (fun x hx=> ?_) ?_ (fun y hy=>by cases hy)
 ·unfold weZ at hx
  exact List.mem_range.1 (List.mem_filter.1 hx).1
 ·unfold weZ
  exact List.Pairwise.filter _ List.pairwise_lt_range
theorem aeZb(l:List Rec):tnZ l.length ((obZ (l.map abZ)).map (weZ (l.map abZ)))=true/\∀x∈(obZ (l.map abZ)).map (weZ (l.map abZ)),x≠ []/\x.length<=l.length:=by
 refine⟨List.all_eq_true.2 fun x hx=> ?_,fun x hx=> ?_⟩
 ·obtain⟨u,_,rfl⟩:=List.mem_map.1 hx
  have:=bkZb (l.map abZ) u
  rw[List.length_map]at this
  exact this
 ·obtain⟨u,hu,rfl⟩:=List.mem_map.1 hx
  have h2:=hzZ (l.map abZ) u
  rw[List.length_map]at h2
  exact⟨(rrZ _ u).1 hu,h2⟩
theorem gwZ(s:Str):∀x∈pgZ s,x<=255:=fun x h=>by
 unfold pgZ natS at h
 rcases List.mem_append.1 h with h|h
 ·exact ucZ _ x h
 ·obtain⟨c,_,rfl⟩:=List.mem_map.1 h
  have:=c.toNat_lt
  omega
theorem hwZ:∀ (t:List Str) (was:Str),∀x∈zfZ was t,x<=255
 | [],_,x,h=>by simp[zfZ]at h
 |s :: t,was,x,h=>by
  rw[zfZ]at h
  simp only[List.mem_append]at h
  rcases h with (h|h)|h
  ·exact ucZ _ x h
  ·exact gwZ _ x h
  ·exact hwZ t s x h
theorem abZb(l:List Str):∀x∈ibZ l,x<=255:=fun x h=>by
 cases l with
 |nil=>simp[ibZ]at h
 |cons s t=>
  rw[ibZ]at h
  rcases List.mem_append.1 h with h|h
  ·exact gwZ _ x h
  ·exact hwZ t s x h
theorem shZb(size:Nat)(l:List Str):∀x∈agZ size l,x<=255:=fun x h=>by
 unfold agZ at h
 simp only[List.mem_append,List.mem_flatMap]at h
 rcases h with (h|⟨c,_,h⟩)|⟨c,_,h⟩
 ·exact ucZ _ x h
 ·exact ucZ _ x h
 ·exact abZb _ x h
theorem blZb(bound:Nat)(l:List Nat):∀x∈Ef.efO bound l,x<=255:=fun x h=>by
 unfold Ef.efO at h
 split at h
 ·exact ucZ _ x h
 ·rcases List.mem_append.1 h with h|h
  ·exact ucZ _ x h
  ·obtain⟨k,_,rfl⟩:=List.mem_map.1 h
   exact Huff.ikZ _ k
theorem clZb(o:Opts.Opt)(l:List Rec):∀x∈ixR o l,x<=255:=fun x h=>by
 unfold ixR ixO hdZ at h
 rcases List.mem_append.1 h with h|h
 ·exact shZb _ _ x h
 ·obtain⟨c,_,h⟩:=List.mem_flatMap.1 h
  exact blZb _ _ x h
theorem jzZ{o:Opts.Opt}(h:Opts.oeZ o=0):16<=o.block/\o.block<=32768/\1<=o.bucket/\o.bucket<=64:=by
 unfold Opts.oeZ Opts.mdZ at h
 split at h
 ·rename_i hc
  exact⟨hc.1.1,hc.1.2,hc.2.1.1,hc.2.1.2⟩
 ·cases h
end Go.Proofs.YtbgoibedicbkjaaGreatDoor.Body
namespace Go.Proofs.YtbgoibedicbkjaaGreatDoor.Body
open Go.RowKit Mem Own Canon NumPut Crc
open Recs Idx
open Go.Proofs.YtbgoibedicbkjaaGreatDoor.Block (oZ)
open Go.Proofs.YtbgoibedicbkjaaGreatDoor.One (FrsAt FrsAt.step)
structure JS (base:Nat) (O D:List Nat) (vo vd:Value) (W:World):Prop where
 oo:W.ownsRow base 5 1 vo O.length (cZ .u8 O)
 od:W.ownsRow base 5 1 vd D.length (cZ .u8 D)
 ap:Apt vo vd
section
variable {base:Nat} {O D X:List Nat} {vo vd v':Value} {W w':World}
theorem JS.step(h:JS base O D vo vd W)(b:Below W.heap.size W w'):JS base O D vo vd w':=
 ⟨eZ h.oo fun y hy=>b.block y (World.ownsRow.lt h.oo y hy).2,eZ h.od fun y hy=>b.block y (World.ownsRow.lt h.od y hy).2,h.ap⟩
theorem JS.dirA(h:JS base O D vo vd W)(hB:base<=W.heap.size)(g:W.grownBy w' vd.ownBlock)(o:w'.ownsRow base 5 1 v' (D.length+X.length) (cZ .u8 D++cZ .u8 X))(t:v'.ownBlock=vd.ownBlock∨v'.ownBlock=some W.heap.size):
 JS base O (D++X) vo v' w'/\Below base W w':=by
 obtain⟨a,b⟩:=udZ h.oo h.ap.symm g t
 refine⟨⟨a,?_,b.symm⟩,(Below.refl base W).grown g hB fun y hy=>(World.ownsRow.lt h.od y hy).1⟩
 rw[List.length_append,show cZ .u8 (D++X)=cZ .u8 D++cZ .u8 X by simp[cZ]]
 exact o
theorem JS.outA(h:JS base O D vo vd W)(hB:base<=W.heap.size)(g:W.grownBy w' vo.ownBlock)(o:w'.ownsRow base 5 1 v' (O.length+X.length) (cZ .u8 O++cZ .u8 X))(t:v'.ownBlock=vo.ownBlock∨v'.ownBlock=some W.heap.size):
 JS base (O++X) D v' vd w'/\Below base W w':=by
 obtain⟨a,b⟩:=udZ h.od h.ap g t
 refine⟨⟨?_,a,b⟩,(Below.refl base W).grown g hB fun y hy=>(World.ownsRow.lt h.oo y hy).1⟩
 rw[List.length_append,show cZ .u8 (O++X)=cZ .u8 O++cZ .u8 X by simp[cZ]]
 exact o
end
structure JE (base:Nat) (vo vd u:Value) (m:Nat) (ys:List Value) (W:World):Prop where
 own:W.ownsRow base 5 1 u m ys
 ao:Apt vo u
 ad:Apt vd u
section
variable {base m:Nat} {O D X:List Nat} {vo vd v' u:Value} {ys:List Value} {W w':World}
theorem JE.new(h:JS base O D vo vd W)(hB:base<=W.heap.size)(o:w'.ownsRow W.heap.size 5 1 u m ys):JE base vo vd u m ys w':=
 ⟨lZ o hB,(miZ o (Nat.le_refl _) fun x hx=>(World.ownsRow.lt h.oo x hx).2).symm,(miZ o (Nat.le_refl _) fun x hx=>(World.ownsRow.lt h.od x hx).2).symm⟩
theorem JE.step(h:JE base vo vd u m ys W)(b:Below W.heap.size W w'):JE base vo vd u m ys w':=⟨eZ h.own fun y hy=>b.block y (World.ownsRow.lt h.own y hy).2,h.ao,h.ad⟩
theorem JE.dirA(h:JE base vo vd u m ys W)(g:W.grownBy w' vd.ownBlock)(t:v'.ownBlock=vd.ownBlock∨v'.ownBlock=some W.heap.size):JE base vo v' u m ys w':=by
 obtain⟨a,b⟩:=udZ h.own h.ad g t
 exact⟨a,h.ao,b⟩
theorem JE.outA(h:JE base vo vd u m ys W)(g:W.grownBy w' vo.ownBlock)(t:v'.ownBlock=vo.ownBlock∨v'.ownBlock=some W.heap.size):JE base v' vd u m ys w':=by
 obtain⟨a,b⟩:=udZ h.own h.ao g t
 exact⟨a,b,h.ad⟩
end
theorem src_part{w:World}{p:Part}(h:p.Ok w):Src w p.A p.ls.length p.c 1 (cZ .u8 p.ls):=by
 refine⟨by simp[cZ],?_⟩
 by_cases h0:0<p.ls.length
 ·obtain⟨b,off,hA,_,hc⟩:=h.row h0
  refine .inr ⟨_,hA,fun j u hu=> ?_⟩
  have hj:j<p.ls.length:=by
   refine Decidable.byContradiction fun hn=> ?_
   have hn':(cZ .u8 p.ls).length<=j:=by simp[cZ];omega
   rw[List.getElem?_eq_none hn']at hu
   cases hu
  have hcj:=hc j 0 hj (by omega)
  rw[Nat.mul_one,Nat.add_zero]at hcj
  rw[add_none,hcj,<-hu]
  have hg:=Huff.numL_get (k:= .u8) hj
  rw[Nat.mul_one,Nat.add_zero]at hg
  rw[hg]
 ·cases hA:p.A with
  |none=>exact .inl ⟨rfl,(h.nil hA).1,(h.nil hA).2⟩
  |some a=>
   refine .inr ⟨a,rfl,fun j u hu=> ?_⟩
   have h1:(cZ .u8 p.ls).length=0:=by rw[show(cZ .u8 p.ls).length=p.ls.length by simp[cZ]];omega
   rw[List.getElem?_eq_none (by rw[h1];exact Nat.zero_le _)]at hu
   cases hu
theorem yxZ(w:World)(n g base cF cG cc cx:Nat)(AF AG AC AX:Option Addr)(ps:List Part)(G CB IX:List Nat)(hn:n<=1000000)(hg:g<=20000)(hpl:ps.length=g)(hGl:G.length=g)(hGb:∀z∈G,z<=1000000)(hfl:(ps.map Part.ls).flatten.length<=500000)(hcl:CB.length<=900000)(hxl:IX.length<=900000)(hc8:∀x∈CB,x<=255)(hx8:∀x∈IX,x<=255)
 (ho:w.ownsRow base 22 1 (.slice AF g cF) g (ps.map Part.v))(hfs:FrsAt w base ps)(hG:Row w w.heap.size AG g 1 (mZ .i64 G))(hC:Part.Ok (⟨AC,cc,CB⟩:Part) w)(hX:Part.Ok (⟨AX,cx,IX⟩:Part) w):
 Calls Tryz.prog 32 #[.int .i64 (n:Nat), .slice AF g cF, .slice AG g cG, .slice AC CB.length cc, .slice AX IX.length cx] w fun e w'=>∃v,e= .returned v/\w'.ownsRow w.heap.size 5 1 v (aeZ n G (ps.map Part.ls) CB IX).length (cZ .u8 (aeZ n G (ps.map Part.ls) CB IX))/\Below w.heap.size w w':=by
 obtain⟨j0,hj0,hy0,hy1,hy2⟩:=info_parts acZ
 have D1:=hid (fun wx=>teZ wx n (by omega))
 have D2:=hid (fun wx=>teZ wx g (by omega))
 have l1:=rZ (x:=n) (by omega)
 have l2:=rZ (x:=g) (by omega)
 have u1:IntKind.u64.wrap (n:Int)=(n:Int):=by rw[IntKind.wrap_u64];omega
 have u2:IntKind.u64.wrap (g:Int)=(g:Int):=by rw[IntKind.wrap_u64];omega
 obtain⟨SZ,hSZ⟩:∃SZ,SZ=(ps.map Part.ls).map List.length:=⟨_,rfl⟩
 have hSl:SZ.length=g:=by rw[hSZ,List.length_map,List.length_map];exact hpl
 have HJP:Hid (aeZ n G (ps.map Part.ls) CB IX=(ps.map Part.ls).flatten++(dbZ CB++(dbZ IX++(dbZ (rfZ n G SZ (dbZ CB).length (dbZ IX).length)++xeZ (dbZ (rfZ n G SZ (dbZ CB).length (dbZ IX).length)).length)))):=by show _=_;unfold aeZ;rw[hSZ]
 have HDP:Hid (∀x y,rfZ n G SZ x y=nZ n++nZ g++cbZ G SZ++(nZ x++nZ y)):=fun x y=>by unfold rfZ;rw[hGl];simp only[List.append_assoc]
 have HPL:=hid hpl
 have HGL:=hid hGl
 have HSL:=hid hSl
 have HGB:=hid hGb
 have HFL:=hid hfl
 have HC8:=hid hc8
 have HX8:=hid hx8
 have HO:=hid ho
 have HFS:=hid hfs
 have HRG:Hid (Row w w.heap.size AG g 1 (mZ .i64 G)):=hG
 have HC:=hid hC
 have HX:=hid hX
 have HSZ:=hid hSZ
 clear hpl hGl hSl hGb hfl hc8 hx8 ho hfs hG hC hX hSZ
 go_enter Tryz.func32,Tryz.ntmps32
 go_wp2_with fail
 refine(D1.out _).mono ?_
 rintro e w1 ⟨v1,rfl,ho1,hb1⟩
 have HJ1:Hid (JS w.heap.size [] (nZ n) (.slice none 0 0) v1 w1):=⟨World.ownsRow_nil _ _ _ _,ho1,fun _ h=>by cases h⟩
 obtain⟨A1,c1,rfl⟩:=bZ ho1
 have HB:=hid hb1
 clear ho1 hb1 D1
 obtain⟨NA,hNA⟩:∃NA,NA=nZ g:=⟨_,rfl⟩
 rw[<-hNA]at D2 l2
 have DNA:=hid D2.out
 have HJ:=hid HJ1.out
 have HNA:=hid hNA
 clear D2 HJ1 hNA
 go_wp2_with fail
 refine(DNA.out _).mono ?_
 rintro e wA ⟨vA,rfl,hoA,hbA⟩
 obtain⟨AA,cA,rfl⟩:=bZ hoA
 have HSA:Hid (Src wA AA NA.length cA 1 (cZ .u8 NA)):=lbZ hoA
 have HJA:=hid (HJ.out.step hbA)
 have HBA:Hid (Below w.heap.size w wA):=iZ hbA HB.out.size HB.out
 have hzA:=HBA.out.size
 clear hoA hbA DNA HJ HB
 go_wp2_with(at_builtin;refine kZ rfl (.tmp 21) (.tmp 25) 22 rfl w.heap.size 5 j0 _ 1 1 Tryz.underlying22 hj0 hy0 hy1 hy2 rfl (by decide) _ _ _ (by rfl) HJA.out.od _ _ _ _ (by rfl) HSA.out (wZ _ _) (by unfold maxLen;omega) (by omega) hzA ?_;intro v2 w2 hown2 hg2 hat2;have q:=HJA.out.dirA hzA hg2 hown2 hat2;obtain⟨A2,c2,rfl⟩:=bZ hown2;have HJ2:=hid q.1;have HB2:Hid (Below w.heap.size w w2):=HBA.out.trans q.2;clear q hown2 hg2 hat2 HJA HSA HBA)
 have HDIR0:Hid (nZ n++NA=nZ n++nZ g++cbZ (G.take 0) (SZ.take 0)):=by show _=_;rw[HNA.out];simp[cbZ]
 rw[HDIR0.out]at HJ2
 have HJ3:Hid (JS w.heap.size ((ps.take 0).map Part.ls).flatten (nZ n++nZ g++cbZ (G.take 0) (SZ.take 0)) (.slice none 0 0) (.slice A2 ((nZ n).length+NA.length) c2) w2):=HJ2.out
 have HLD0:Hid ((nZ n++nZ g++cbZ (G.take 0) (SZ.take 0)).length<=20+20*0):=by
  show _<=_
  rw[<-HDIR0.out,List.length_append]
  omega
 clear HJ2
 go_wp2_with fail
 go_loopw [11,12,13] (fun ov dv iv wr=>∃k:Nat,k<=g/\iv= .int .i64 k/\Hid (JS w.heap.size ((ps.take k).map Part.ls).flatten (nZ n++nZ g++cbZ (G.take k) (SZ.take k)) ov dv wr)/\Hid ((nZ n++nZ g++cbZ (G.take k) (SZ.take k)).length<=20+20*k)/\Hid (Below w.heap.size w wr)) (fun _ _ iv _=>g-(intOf iv).toNat)
 case atStart=>exact⟨0,by omega,rfl,HJ3.out,HLD0.out,HB2.out⟩
 case round=>
  obtain⟨k,hk,rfl,HJ,HLD,HB⟩:=hrel
  clear HJ3 HLD0 HB2 HDIR0
  obtain⟨wi,rfl⟩:∃wi:World,wi=wr:=⟨_,rfl⟩
  have hz:=HB.out.size
  by_cases hlt:k<g
  ·have gk:decide ((k:Int)<(g:Int))=true:=by simp;omega
   have gk':decide (k<g)=true:=by simp;omega
   have x0:(0:Int)<=(k:Int):=by omega
   have x1:(k:Int)<(g:Int):=by omega
   obtain⟨bg,og,m,rfl,hbg,hm,cm⟩:=kbZ (HRG.out.below HB.out) HGL.out hlt
   have hkl:k<ps.length:=by rw[HPL.out];exact hlt
   obtain⟨P,hP⟩:∃P,P=ps[k]:=⟨_,rfl⟩
   have hPk:ps[k]? =some P:=by rw[hP];exact List.getElem?_eq_getElem hkl
   have hOw:wi.ownsRow base 22 1 (.slice AF g cF) g (ps.map Part.v):=eZ HO.out fun y hy=>HB.out.block y (World.ownsRow.lt HO.out y hy).2
   obtain⟨gf,gc,hAF,_,_⟩:=hOw.form (by omega)
   injection hAF with e1 e2 e3
   subst e1 e3
   have hgf:gf<w.heap.size:=(World.ownsRow.lt HO.out gf rfl).2
   have cf:w.cell? ⟨gf,k,none⟩=some P.v:=(Lz.own_cells HO.out hlt).1.trans (by rw[List.getElem?_map,hPk];rfl)
   have HCF:Hid (∀wx,Below w.heap.size w wx->wx.cell? ⟨gf,k,none⟩=some P.v):=fun wx h=>(h.cell (p:=⟨gf,k,none⟩) hgf).trans cf
   have HPO:Hid (∀wx,Below w.heap.size w wx->Part.Ok P wx):=fun wx h=>(oZ (HFS.out P (by rw[hP];exact List.getElem_mem hkl)) rfl).step h
   have hml:=HGB.out m (List.mem_of_getElem? hm)
   have hSk:SZ[k]? =some P.ls.length:=by rw[HSZ.out,List.getElem?_map,List.getElem?_map,hPk];rfl
   have hpl1:P.ls.length<=500000:=Nat.le_trans (One.zyZ (List.mem_map.2 ⟨P,by rw[hP];exact List.getElem_mem hkl,rfl⟩)) HFL.out
   have hst:=moZ hm hSk
   have hot:((ps.take (k+1)).map Part.ls).flatten=((ps.take k).map Part.ls).flatten++P.ls:=by rw[List.take_add_one,hPk];simp
   have hol:((ps.take k).map Part.ls).flatten.length<=500000:=by
    refine Nat.le_trans ?_ HFL.out
    conv=>rhs;rw[<-List.take_append_drop k ps]
    rw[List.map_append,List.flatten_append,List.length_append]
    omega
   have DNA:=hid (fun wx=>teZ wx m (by omega))
   have DNB:=hid (fun wx=>teZ wx P.ls.length (by omega))
   have la:=rZ (x:=m) (by omega)
   have lb:=rZ (x:=P.ls.length) (by omega)
   have u3:IntKind.u64.wrap (m:Int)=(m:Int):=by rw[IntKind.wrap_u64];omega
   obtain⟨pA,pc,pls⟩:=P
   simp only[Part.v]at HCF hot hst hpl1 hSk lb DNB HPO
   have u4:IntKind.u64.wrap (pls.length:Int)=(pls.length:Int):=by rw[IntKind.wrap_u64];omega
   have HSE:Hid (nZ n++nZ g++cbZ (G.take (k+1)) (SZ.take (k+1))=nZ n++nZ g++cbZ (G.take k) (SZ.take k)++nZ m++nZ pls.length):=by show _=_;rw[hst];simp only[List.append_assoc]
   obtain⟨NB,hNB⟩:∃NB,NB=nZ pls.length:=⟨_,rfl⟩
   rw[<-hNB]at HSE DNB lb
   obtain⟨NA,hNA⟩:∃NA,NA=nZ m:=⟨_,rfl⟩
   rw[<-hNA]at HSE DNA la
   have HOE:Hid (((ps.take (k+1)).map Part.ls).flatten=((ps.take k).map Part.ls).flatten++pls):=hot
   have hdl:=HLD.out
   generalize nZ n++nZ g++cbZ (G.take k) (SZ.take k)=DI at *
   generalize ((ps.take k).map Part.ls).flatten=OU at *
   obtain⟨Ao,co,rfl⟩:=bZ HJ.out.oo
   obtain⟨Ad,cd,rfl⟩:=bZ HJ.out.od
   clear hm hkl hP hPk hOw cf hml hSk hst hot hNA hNB HLD
   go_wp2_with fail
   refine(DNA.out _).mono ?_
   rintro e wA ⟨vA,rfl,hoA,hbA⟩
   obtain⟨AA,cA,rfl⟩:=bZ hoA
   have HSA:Hid (Src wA AA NA.length cA 1 (cZ .u8 NA)):=lbZ hoA
   have HJA:=hid (HJ.out.step hbA)
   have HBA:Hid (Below w.heap.size w wA):=iZ hbA HB.out.size HB.out
   have hzA:=HBA.out.size
   clear hoA hbA DNA HJ HB
   go_wp2_with(at_builtin;refine kZ rfl (.tmp 33) (.tmp 39) 22 rfl w.heap.size 5 j0 _ 1 1 Tryz.underlying22 hj0 hy0 hy1 hy2 rfl (by decide) _ _ _ (by rfl) HJA.out.od _ _ _ _ (by rfl) HSA.out (wZ _ _) (by unfold maxLen;omega) (by omega) hzA ?_;intro v2 w2 hown2 hg2 hat2;have q2:=HJA.out.dirA hzA hg2 hown2 hat2;obtain⟨A2,c2,rfl⟩:=bZ hown2;have HJ2:=hid q2.1;have HB2:Hid (Below w.heap.size w w2):=HBA.out.trans q2.2;have hz2:=HB2.out.size;clear q2 hown2 hg2 hat2;have cf2:=HCF.out w2 HB2.out)
   clear HJA HSA HBA hzA
   have hd2:(DI++NA).length<=30+20*k:=by rw[List.length_append];omega
   refine(DNB.out _).mono ?_
   rintro e wB ⟨vB,rfl,hoB,hbB⟩
   obtain⟨AB,cB,rfl⟩:=bZ hoB
   have HSB:Hid (Src wB AB NB.length cB 1 (cZ .u8 NB)):=lbZ hoB
   have HJB:=hid (HJ2.out.step hbB)
   have HBB:Hid (Below w.heap.size w wB):=iZ hbB HB2.out.size HB2.out
   have hzB:=HBB.out.size
   clear hoB hbB DNB HJ2 HB2
   have cfB:=HCF.out wB HBB.out
   go_wp2_with(first|(at_builtin;refine kZ rfl (.tmp 41) (.tmp 48) 22 rfl w.heap.size 5 j0 _ 1 1 Tryz.underlying22 hj0 hy0 hy1 hy2 rfl (by decide) _ _ _ (by rfl) HJB.out.od _ _ _ _ (by rfl) HSB.out (wZ _ _) (by unfold maxLen;omega) (by omega) hzB ?_;intro v3 w3 hown3 hg3 hat3;have q3:=HJB.out.dirA hzB hg3 hown3 hat3;obtain⟨A3,c3,rfl⟩:=bZ hown3;have HJ3:=hid q3.1;have HB3:Hid (Below w.heap.size w w3):=HBB.out.trans q3.2;have hz3:=HB3.out.size;clear q3 hown3 hg3 hat3;have cf3:=HCF.out w3 HB3.out;have HS3:Src w3 pA pls.length pc 1 (cZ .u8 pls):=src_part (HPO.out w3 HB3.out))|(at_builtin;refine kZ rfl (.tmp 50) (.tmp 54) 22 rfl w.heap.size 5 j0 _ 1 1 Tryz.underlying22 hj0 hy0 hy1 hy2 rfl (by decide) _ _ _ (by rfl) HJ3.out.oo _ _ _ _ (by rfl) HS3 (wZ _ _) (by unfold maxLen;omega) (by omega) hz3 ?_;intro v4 w4 hown4 hg4 hat4;have q4:=HJ3.out.outA hz3 hg4 hown4 hat4;obtain⟨A4,c4,rfl⟩:=bZ hown4;have HJ4:=hid q4.1;have HB4:Hid (Below w.heap.size w w4):=HB3.out.trans q4.2;have hz4:=HB4.out.size;clear q4 hown4 hg4 hat4;skip))
   have hj4:=HJ4.out
   simp only[List.length_append]at hj4
   have HJ5:=hid hj4
   clear hj4
   have HLD4:Hid ((DI++NA++NB).length<=20+20*(k+1)):=by show _<=_;rw[List.length_append];omega
   go_roundw
   case measure=>go_light;simp[intOf];omega
   case rel=>go_light;exact⟨k+1,by omega,by first|rfl|go_num,by rw[HSE.out,HOE.out];exact HJ5.out,by rw[HSE.out];exact HLD4.out,HB4.out⟩
  ·obtain rfl:k=g:=by omega
   have gk:decide ((k:Int)<(k:Int))=false:=by simp
   have gk':decide (k<k)=false:=by simp
   have eG:G.take k=G:=List.take_of_length_le (by rw[HGL.out];exact Nat.le_refl _)
   have eS:SZ.take k=SZ:=List.take_of_length_le (by rw[HSL.out];exact Nat.le_refl _)
   have eP:ps.take k=ps:=List.take_of_length_le (by rw[HPL.out];exact Nat.le_refl _)
   rw[eG,eS]at HJ HLD
   rw[eP]at HJ
   have hdl:=HLD.out
   have hol:=HFL.out
   have HDE:=hid (HDP.out (dbZ CB).length (dbZ IX).length)
   have hd8:=trZ n G SZ (dbZ CB).length (dbZ IX).length
   rw[tcZ CB,tcZ IX]at HDE hd8 HJP
   generalize rfZ n G SZ (CB.length+4) (IX.length+4)=DD at *
   generalize nZ n++nZ k++cbZ G SZ=DI at *
   generalize (ps.map Part.ls).flatten=OU at *
   obtain⟨Ao,co,rfl⟩:=bZ HJ.out.oo
   obtain⟨Ad,cd,rfl⟩:=bZ HJ.out.od
   have HCw:=hid (HC.out)
   have E1:=hid (gkZ wi AC CB.length cc CB rfl (by omega) HC.out.nil HC8.out ((HC.out.row.below HB.out).mono hz))
   have E2:=hid (fun wx (h:Below w.heap.size w wx)=>gkZ wx AX IX.length cx IX rfl (by omega) HX.out.nil HX8.out ((HX.out.row.below h).mono h.size))
   unfold ceZ at E1 E2
   obtain⟨cl,hcl4⟩:∃cl,cl=CB.length+4:=⟨_,rfl⟩
   obtain⟨il,hil4⟩:∃il,il=IX.length+4:=⟨_,rfl⟩
   rw[<-hcl4]at E1 HDE
   rw[<-hil4]at E2 HDE
   have hclb:cl<=900004:=by omega
   have hilb:il<=900004:=by omega
   have HCL4:=hid hcl4
   have HIL4:=hid hil4
   clear eG eS eP HLD hcl4 hil4 HDP HSZ HCw
   go_wp2_with fail
   refine E1.out.mono ?_
   rintro e w5 ⟨v5,rfl,ho5,hb5⟩
   obtain⟨A5,c5,rfl⟩:=bZ ho5
   have HB5:Hid (Below w.heap.size w w5):=iZ hb5 hz HB.out
   have HJ5:=hid (HJ.out.step hb5)
   have HO5:Hid (w5.ownsRow w.heap.size 5 1 (.slice A5 cl c5) cl (cZ .u8 (dbZ CB))):=lZ ho5 hz
   have HE5:Hid (JE w.heap.size (.slice Ao OU.length co) (.slice Ad DI.length cd) (.slice A5 cl c5) cl (cZ .u8 (dbZ CB)) w5):=JE.new HJ.out hz ho5
   have E2':=hid (E2.out w5 HB5.out)
   have hz5:=HB5.out.size
   clear ho5 hb5 E1 E2 HJ HB HO5 hz
   go_wp2_with fail
   refine E2'.out.mono ?_
   rintro e w6 ⟨v6,rfl,ho6,hb6⟩
   obtain⟨A6,c6,rfl⟩:=bZ ho6
   have HB6:Hid (Below w.heap.size w w6):=iZ hb6 hz5 HB5.out
   have HE6:Hid (JE w.heap.size (.slice Ao OU.length co) (.slice Ad DI.length cd) (.slice A6 il c6) il (cZ .u8 (dbZ IX)) w6):=JE.new HJ5.out hz5 ho6
   have HE56:=hid (HE5.out.step hb6)
   have HJ6:=hid (HJ5.out.step hb6)
   have hz6:=HB6.out.size
   have DN1:=hid (fun wx=>teZ wx cl (by omega))
   have DN2:=hid (fun wx=>teZ wx il (by omega))
   have la:=rZ (x:=cl) (by omega)
   have lb:=rZ (x:=il) (by omega)
   have u3:IntKind.u64.wrap (cl:Int)=(cl:Int):=by rw[IntKind.wrap_u64];omega
   have u4:IntKind.u64.wrap (il:Int)=(il:Int):=by rw[IntKind.wrap_u64];omega
   generalize nZ cl=N1 at *
   generalize nZ il=N2 at *
   clear ho6 hb6 E2' HJ5 HB5 HE5 hz5
   go_wp2_with fail
   refine(DN1.out _).mono ?_
   rintro e w7 ⟨v7,rfl,ho7,hb7⟩
   obtain⟨A7,c7,rfl⟩:=bZ ho7
   have HS7:Hid (Src w7 A7 N1.length c7 1 (cZ .u8 N1)):=lbZ ho7
   have HJ7:=hid (HJ6.out.step hb7)
   have HE57:=hid (HE56.out.step hb7)
   have HE67:=hid (HE6.out.step hb7)
   have HB7:Hid (Below w.heap.size w w7):=iZ hb7 hz6 HB6.out
   have hz7:=HB7.out.size
   clear ho7 hb7 DN1 HJ6 HE56 HE6 HB6 hz6
   go_wp2_with(at_builtin;refine kZ rfl (.tmp 60) (.tmp 64) 22 rfl w.heap.size 5 j0 _ 1 1 Tryz.underlying22 hj0 hy0 hy1 hy2 rfl (by decide) _ _ _ (by rfl) HJ7.out.od _ _ _ _ (by rfl) HS7.out (wZ _ _) (by unfold maxLen;omega) (by omega) hz7 ?_;intro v8 w8 hown8 hg8 hat8;have HE58:=hid (HE57.out.dirA hg8 hat8);have HE68:=hid (HE67.out.dirA hg8 hat8);have q8:=HJ7.out.dirA hz7 hg8 hown8 hat8;obtain⟨A8,c8,rfl⟩:=bZ hown8;have HJ8:=hid q8.1;have HB8:Hid (Below w.heap.size w w8):=HB7.out.trans q8.2;have hz8:=HB8.out.size;clear q8 hown8 hg8 hat8;skip)
   have hd8l:(DI++N1).length<=400030:=by rw[List.length_append];omega
   clear HS7 HJ7 HE57 HE67 HB7 hz7
   refine(DN2.out _).mono ?_
   rintro e w9 ⟨v9,rfl,ho9,hb9⟩
   obtain⟨A9,c9,rfl⟩:=bZ ho9
   have HS9:Hid (Src w9 A9 N2.length c9 1 (cZ .u8 N2)):=lbZ ho9
   have HJ9:=hid (HJ8.out.step hb9)
   have HE59:=hid (HE58.out.step hb9)
   have HE69:=hid (HE68.out.step hb9)
   have HB9:Hid (Below w.heap.size w w9):=iZ hb9 hz8 HB8.out
   have hz9:=HB9.out.size
   clear ho9 hb9 DN2 HJ8 HE58 HE68 HB8 hz8
   go_wp2_with(at_builtin;refine kZ rfl (.tmp 66) (.tmp 70) 22 rfl w.heap.size 5 j0 _ 1 1 Tryz.underlying22 hj0 hy0 hy1 hy2 rfl (by decide) _ _ _ (by rfl) HJ9.out.od _ _ _ _ (by rfl) HS9.out (wZ _ _) (by unfold maxLen;omega) (by omega) hz9 ?_;intro v10 w10 hown10 hg10 hat10;have HE510:=hid (HE59.out.dirA hg10 hat10);have HE610:=hid (HE69.out.dirA hg10 hat10);have q10:=HJ9.out.dirA hz9 hg10 hown10 hat10;obtain⟨A10,c10,rfl⟩:=bZ hown10;have HJ10:=hid q10.1;have HB10:Hid (Below w.heap.size w w10):=HB9.out.trans q10.2;have hz10:=HB10.out.size;clear q10 hown10 hg10 hat10;skip)
   clear HS9 HJ9 HE59 HE69 HB9 hz9
   have hDD:DD=DI++N1++N2:=by rw[HDE.out,List.append_assoc]
   have hdd:DD.length=DI.length+N1.length+N2.length:=by rw[hDD,List.length_append,List.length_append]
   have od:=HJ10.out.od
   rw[<-hDD]at od
   have od2:=od
   rw[hdd]at od2
   simp only[List.length_append]at od2
   have P10:Part.Ok (⟨A10,c10,DD⟩:Part) w10:=by
    have h:=oZ (A:=A10) (c:=c10) (ls:=DD) (n:=DI.length+N1.length+N2.length) od2 hdd
    exact h
   have E11:=hid (gkZ w10 A10 (DI.length+N1.length+N2.length) c10 DD hdd (by omega) (fun e=>by have h:=P10.nil e;exact⟨by rw[<-hdd];exact h.1,h.2⟩) hd8 (by have h:=P10.row;simp only[hdd]at h;exact h))
   unfold ceZ at E11
   obtain⟨dl,hdl4⟩:∃dl,dl=DD.length+4:=⟨_,rfl⟩
   rw[<-hdl4]at E11
   have hdlb:dl<=400060:=by omega
   have HDL4:=hid hdl4
   clear hDD hdd od od2 P10 hdl4 HDE
   refine E11.out.mono ?_
   rintro e w11 ⟨v11,rfl,ho11,hb11⟩
   obtain⟨A11,c11,rfl⟩:=bZ ho11
   have HE11:Hid (JE w.heap.size (.slice Ao OU.length co) (.slice A10 ((DI++N1).length+N2.length) c10) (.slice A11 dl c11) dl (cZ .u8 (dbZ DD)) w11):=JE.new HJ10.out hz10 ho11
   have HE511:=hid (HE510.out.step hb11)
   have HE611:=hid (HE610.out.step hb11)
   have HJ11:=hid (HJ10.out.step hb11)
   have HB11:Hid (Below w.heap.size w w11):=iZ hb11 hz10 HB10.out
   have hz11:=HB11.out.size
   have HS5:Hid (Src w11 A5 cl c5 1 (cZ .u8 (dbZ CB))):=lbZ HE511.out.own
   have hl5:(OU++dbZ CB).length<=1500000:=by rw[List.length_append,tcZ,<-HCL4.out];omega
   have hl6:(OU++dbZ CB++dbZ IX).length<=2500000:=by rw[List.length_append,tcZ,<-HIL4.out];omega
   have hl7:(OU++dbZ CB++dbZ IX++dbZ DD).length<=3000000:=by rw[List.length_append,tcZ,<-HDL4.out];omega
   have f5:(dbZ CB).length=cl:=by rw[tcZ,HCL4.out]
   have f6:(dbZ IX).length=il:=by rw[tcZ,HIL4.out]
   have f7:(dbZ DD).length=dl:=by rw[tcZ,HDL4.out]
   have HF5:=hid f5
   have HF6:=hid f6
   have HF7:=hid f7
   generalize dbZ CB=KC at *
   generalize dbZ IX=KX at *
   generalize dbZ DD=KD at *
   clear ho11 hb11 E11 HJ10 HE510 HE610 HB10 hz10 f5 f6 f7
   go_wp2_with(first|(at_builtin;refine kZ rfl (.tmp 73) (.tmp 74) 22 rfl w.heap.size 5 j0 _ 1 1 Tryz.underlying22 hj0 hy0 hy1 hy2 rfl (by decide) _ _ _ (by rfl) HJ11.out.oo _ _ _ _ (by rfl) HS5.out (wZ _ _) (by unfold maxLen;omega) (by omega) hz11 ?_;intro v12 w12 hown12 hg12 hat12;rw[<-HF5.out]at hown12;have HE612:=hid (HE611.out.outA hg12 hat12);have HE1112:=hid (HE11.out.outA hg12 hat12);have HS6:Src w12 A6 il c6 1 (cZ .u8 KX):=lbZ HE612.out.own;have q12:=HJ11.out.outA hz11 hg12 hown12 hat12;obtain⟨A12,c12,rfl⟩:=bZ hown12;have hj12:=q12.1;(try simp only[List.length_append]at hj12);have HJ12:=hid hj12;clear hj12;have HB12:Hid (Below w.heap.size w w12):=HB11.out.trans q12.2;have hz12:=HB12.out.size;clear q12 hown12 hg12 hat12;skip)|(at_builtin;refine kZ rfl (.tmp 76) (.tmp 77) 22 rfl w.heap.size 5 j0 _ 1 1 Tryz.underlying22 hj0 hy0 hy1 hy2 rfl (by decide) _ _ _ (by rfl) HJ12.out.oo _ _ _ _ (by rfl) HS6 (wZ _ _) (by unfold maxLen;omega) (by omega) hz12 ?_;intro v13 w13 hown13 hg13 hat13;rw[<-HF6.out]at hown13;have HE1113:=hid (HE1112.out.outA hg13 hat13);have HS7:Src w13 A11 dl c11 1 (cZ .u8 KD):=lbZ HE1113.out.own;have q13:=HJ12.out.outA hz12 hg13 hown13 hat13;obtain⟨A13,c13,rfl⟩:=bZ hown13;have hj13:=q13.1;(try simp only[List.length_append]at hj13);have HJ13:=hid hj13;clear hj13;have HB13:Hid (Below w.heap.size w w13):=HB12.out.trans q13.2;have hz13:=HB13.out.size;clear q13 hown13 hg13 hat13;skip)|(at_builtin;refine kZ rfl (.tmp 79) (.tmp 80) 22 rfl w.heap.size 5 j0 _ 1 1 Tryz.underlying22 hj0 hy0 hy1 hy2 rfl (by decide) _ _ _ (by rfl) HJ13.out.oo _ _ _ _ (by rfl) HS7 (wZ _ _) (by unfold maxLen;omega) (by omega) hz13 ?_;intro v14 w14 hown14 hg14 hat14;rw[<-HF7.out]at hown14;have q14:=HJ13.out.outA hz13 hg14 hown14 hat14;obtain⟨A14,c14,rfl⟩:=bZ hown14;have hj14:=q14.1;(try simp only[List.length_append]at hj14);have HJ14:=hid hj14;clear hj14;have HB14:Hid (Below w.heap.size w w14):=HB13.out.trans q14.2;have hz14:=HB14.out.size;clear q14 hown14 hg14 hat14;skip))
   have HJO:Hid (aeZ n G (ps.map Part.ls) CB IX=OU++KC++KX++KD++xeZ dl):=by show _=_;rw[HJP.out,HF7.out];simp only[List.append_assoc]
   have E15:=hid (vxZ w14 dl (by omega))
   have u5:IntKind.u64.wrap (dl:Int)=(dl:Int):=by rw[IntKind.wrap_u64];omega
   clear HJ11 HJ12 HJ13 HB11 HB12 HB13 HE11 HE511 HE611 HE612 HE1112 HE1113 HS5 HS6 HS7 HJP
   refine E15.out.mono ?_
   rintro e w15 ⟨v15,rfl,ho15,hb15⟩
   obtain⟨A15,c15,rfl⟩:=bZ ho15
   have HS15:Hid (Src w15 A15 4 c15 1 (cZ .u8 (xeZ dl))):=lbZ ho15
   have HJ15:=hid (HJ14.out.step hb15)
   have HB15:Hid (Below w.heap.size w w15):=iZ hb15 hz14 HB14.out
   have hz15:=HB15.out.size
   clear ho15 hb15 E15 HJ14 HB14
   have HO16:Hid (w15.ownsRow w.heap.size 5 1 (.slice A14 (OU.length+(KC.length+KX.length)+KD.length) c14) (OU++KC++KX++KD).length (cZ .u8 (OU++KC++KX++KD))):=by
    have h:=HJ15.out.oo
    show World.ownsRow _ _ _ _ _ _ _
    rw[show OU.length+(KC.length+KX.length)+KD.length=OU.length+KC.length+KX.length+KD.length by omega]
    exact h
   clear HJ15
   go_wp2_with(at_builtin;refine kZ rfl (.tmp 89) (.tmp 90) 22 rfl w.heap.size 5 j0 _ 1 1 Tryz.underlying22 hj0 hy0 hy1 hy2 rfl (by decide) _ _ _ (by rfl) HO16.out _ _ _ _ (by rfl) HS15.out (wZ _ _) (by unfold maxLen;omega) (by omega) hz15 ?_;intro v17 w17 hown17 hg17 hat17)
   have HB17:Hid (Below w.heap.size w w17):=HB15.out.grown hg17 hz15 (fun y hy=>(World.ownsRow.lt HO16.out y hy).1)
   go_ret
   refine⟨v17,rfl,?_,HB17.out⟩
   rw[HJO.out]
   have e1:(OU++KC++KX++KD++xeZ dl).length=(OU++KC++KX++KD).length+4:=by rw[List.length_append];rfl
   have e2:cZ .u8 (OU++KC++KX++KD++xeZ dl)=cZ .u8 (OU++KC++KX++KD)++cZ .u8 (xeZ dl):=by simp[cZ]
   rw[e1,e2]
   exact hown17
end Go.Proofs.YtbgoibedicbkjaaGreatDoor.Body
namespace Go.Proofs.YtbgoibedicbkjaaGreatDoor.Idx
open Go.RowKit Mem Own Canon Sift
open NumPut Recs
open Go.Proofs.YtbgoibedicbkjaaGreatDoor.Ef (ycZ efO)
open Go.Proofs.YtbgoibedicbkjaaGreatDoor.Huff (numL_get)
theorem dlZb{w:World}{base:Nat}{vT vL:Value}{vals:List Value}{ts:List Str}{ls:List (List Nat)}(h:IxAt w base vT vL vals ts ls){k:Nat}{x:List Nat}(hx:ls[k]? =some x):
 ∃A c,vals[k]? =some (.slice A x.length c)/\Row w w.heap.size A x.length 1 (mZ .i64 x):=by
 obtain⟨hk,_⟩:=List.getElem?_eq_some_iff.1 hx
 have hkv:k<vals.length:=by rw[h.len];exact hk
 have hv:vals[k]? =some vals[k]:=List.getElem?_eq_getElem hkv
 have ho:=h.r k _ x hv hx
 obtain⟨A,c,e⟩:=bZ ho
 rw[e]at hv ho
 exact⟨A,c,hv,Row.of_own ho rfl (fun i j hi hj=>by have e0:j=0:=(by omega);subst e0;exact numL_get (by omega))⟩
end Go.Proofs.YtbgoibedicbkjaaGreatDoor.Idx
namespace Go.Proofs.YtbgoibedicbkjaaGreatDoor.Body
open Recs Idx Opts
open Go.Proofs.YtbgoibedicbkjaaGreatDoor.NumPut (nZ rZ)
open Go.Proofs.YtbgoibedicbkjaaGreatDoor.Ef (efO ycZ uhZ fgZ kiZ efW)
open Go.Proofs.YtbgoibedicbkjaaGreatDoor.Huff (bytesOf_length)
theorem thZb{bound:Nat}{l:List Nat}(hb:bound<=20000)(hm:ycZ bound none l=true)(h0:l≠ [])(hn:l.length<=bound):(efO bound l).length<=10+(3*bound+7) / 8:=by
 have h1:1<=l.length:=List.length_pos_iff.2 h0
 have hq:1<=bound / l.length:=(Nat.one_le_div_iff (by omega)).2 hn
 have hW:l.length*efW bound l.length<=bound:=by
  have h3:=Ef.wkZ (q:=bound / l.length) (by omega)
  have h4:efW bound l.length<2 ^ efW bound l.length:=Nat.lt_two_pow_self
  unfold efW at h4 ⊢
  have h5:l.length*Nat.log2 (bound / l.length)<=l.length*(bound / l.length):=Nat.mul_le_mul_left _ (by omega)
  exact Nat.le_trans h5 (Nat.mul_div_le _ _)
 have hlow:=fgZ (efW bound l.length) l
 have hlt:=kiZ bound l none hm
 have hp:=(fnZ bound l none hm).1
 have hhi:=enZ (l.map (·/ 2 ^ efW bound l.length)) 0 bound (Nat.zero_le _) (fun x hx=>by
  obtain⟨y,hy,rfl⟩:=List.mem_map.1 hx
  exact⟨Nat.zero_le _,Nat.le_trans (Nat.div_le_self _ _) (by have:=hlt y hy;omega)⟩) (List.Pairwise.map _ (fun a b h=>Nat.div_le_div_right h) hp)
 rw[List.length_map]at hhi
 have hn2:=rZ (x:=l.length) (by omega)
 unfold efO
 rw[if_neg h0,List.length_append,bytesOf_length]
 unfold uhZ
 rw[List.length_append,hlow]
 omega
theorem poZ{bound C:Nat}:∀ {ls:List (List Nat)},(∀x∈ls,(efO bound x).length<=C)->(hdZ bound ls).length<=C*ls.length
 | [],_=>by simp[hdZ]
 |x :: t,h=>by
  have ih:=poZ (ls:=t) (fun y hy=>h y (List.mem_cons_of_mem _ hy))
  have hx:=h x List.mem_cons_self
  unfold hdZ at ih ⊢
  rw[List.flatMap_cons,List.length_append,List.length_cons,Nat.mul_add]
  omega
theorem uhZb(ts:List (List Str)):(obZ ts).length<=(ts.map List.length).sum:=by
 have h:∀ (ts:List (List Str)) (acc:List Str),(ts.foldl hfZ acc).length<=acc.length+(ts.map List.length).sum:=fun ts=>by
  induction ts with
  |nil=>intro acc;simp
  |cons t ts ih=>
   intro acc
   have h1:=ih (hfZ acc t)
   have h2:=mlZ t acc
   rw[List.foldl_cons,List.map_cons,List.sum_cons]
   omega
 have:=h ts []
 simpa[obZ]using this
theorem gnZ:∀l:List Rec,((((l.map abZ).map List.length).sum:Nat):Int)<=ocZ l
 | []=>by simp[jlZ]
 |r :: l=>by
  have ih:=gnZ l
  have e:ocZ (r :: l)=djZ r+ocZ l:=by
   simp only[ocZ,List.map_cons,List.foldl_cons]
   rw[psZ]
   omega
  have h:=ydZb r.text.data.toList r.source.data.toList
  have h1:r.text.data.toList.length=r.text.size:=Array.length_toList
  have h2:r.source.data.toList.length=r.source.size:=Array.length_toList
  rw[h1,h2]at h
  rw[List.map_cons,List.map_cons,List.sum_cons,e]
  have h3:(abZ r).length<=r.text.size+r.source.size:=h
  unfold djZ
  omega
theorem vhZb{o:Opt}{l:List Rec}{n:Nat}(hn:l.length=n)(h1:(n:Int)<=30)(h2:ocZ l<=1500):(obZ (l.map abZ)).length<=20000/\(oeZ o=0->(ixR o l).length<=99000):=by
 have hT:(obZ (l.map abZ)).length<=1500:=by
  have a:=uhZb (l.map abZ)
  have b:=gnZ l
  omega
 refine⟨by omega,fun ho=> ?_⟩
 obtain⟨_,_,hb3,hb4⟩:=jzZ ho
 have hok:=aeZb l
 have hmay:=izZ (l:=l) (by omega)
 have hs:∀s∈obZ (l.map abZ),s.length<=25:=fun s hs=>(ijZ hmay s hs).2
 have a:=snZ hs (size:=o.bucket.toNat) (by omega) (by omega) (nCh o.bucket.toNat (obZ (l.map abZ)).length)
 have b:=dmZ hs (size:=o.bucket.toNat) (by omega) (nCh o.bucket.toNat (obZ (l.map abZ)).length)
 have c:=rqZ (size:=o.bucket.toNat) (n:=(obZ (l.map abZ)).length) (by omega)
 have d:=poZ (bound:=l.length) (C:=22) (ls:=(obZ (l.map abZ)).map (weZ (l.map abZ))) (fun x hx=>by
  have h3:=hok.2 x hx
  have h4:=thZb (bound:=l.length) (l:=x) (by omega) (List.all_eq_true.1 hok.1 x hx) h3.1 h3.2
  omega)
 rw[List.length_map]at d
 have e:agZ o.bucket.toNat (obZ (l.map abZ))=hdB o.bucket.toNat (obZ (l.map abZ)) (nCh o.bucket.toNat (obZ (l.map abZ)).length)++bdB o.bucket.toNat (obZ (l.map abZ)) (nCh o.bucket.toNat (obZ (l.map abZ)).length):=qpZ (by omega) _
 unfold ixR ixO
 rw[List.length_append,e,List.length_append]
 omega
end Go.Proofs.YtbgoibedicbkjaaGreatDoor.Body
namespace Go.Proofs.YtbgoibedicbkjaaGreatDoor.Body
open Go.RowKit Mem Own Canon
theorem bbZb(w:World)(A:Option Addr)(n c:Nat)(ls:List Nat)(hn:ls.length=n)(hN:n<=1000000)(ha:Row w w.heap.size A n 1 (mZ .i64 ls)):
 Calls Tryz.prog 165 #[.slice A n c, .int .i64 0] w fun e w'=>∃r:Int,e= .returned (.int .i64 r)/\(0<=r↔0∈ls)/\w'=w:=by
 have HN:=hid hn
 have H0:Hid (0 ∉ ls.take 0):=by simp[Hid]
 clear hn
 go_enter Tryz.func165,Tryz.ntmps165
 go_wp2_with fail
 go_loopw [8] (fun iv wx=>∃k:Nat,k<=n/\iv= .int .i64 k/\Hid (0 ∉ ls.take k)/\wx=w) (fun iv _=>n-(intOf iv).toNat)
 case atStart=>exact⟨0,by omega,rfl,H0.out,rfl⟩
 case round=>
  obtain⟨k,hk,rfl,HZ,rfl⟩:=hrel
  by_cases hlt:k<n
  ·have gk:decide ((k:Int)<(n:Int))=true:=by simp;omega
   have gk':decide (k<n)=true:=by simp;omega
   have x0:(0:Int)<=(k:Int):=by omega
   have x1:(k:Int)<(n:Int):=by omega
   obtain⟨b,off,x,rfl,_,hx,ck⟩:=kbZ ha HN.out hlt
   by_cases hx0:x=0
   ·have gz:((0:Int)==(x:Int))=true:=by rw[hx0];rfl
    have HF:Hid (0∈ls):=by show 0∈ls;rw[<-hx0];exact List.mem_of_getElem? hx
    clear hx hx0 HZ
    go_wp2_with fail
    go_ret
    exact⟨(k:Int),rfl,⟨fun _=>HF.out,fun _=>by omega⟩,rfl⟩
   ·have gz:((0:Int)==(x:Int))=false:=by rw[beq_eq_false_iff_ne];omega
    have HZ2:Hid (0 ∉ ls.take (k+1)):=by
     show ¬_
     rw[List.take_add_one,hx]
     intro h
     rcases List.mem_append.1 h with h|h
     ·exact HZ.out h
     ·simp at h;exact hx0 h.symm
    clear hx hx0 HZ
    go_wp2_with fail
    go_roundw
    case measure=>go_light;simp[intOf];omega
    case rel=>go_light;exact⟨k+1,by omega,by first|rfl|go_num,HZ2.out,by first|rfl|trivial⟩
  ·obtain rfl:k=n:=by omega
   have gk:decide ((k:Int)<(k:Int))=false:=by simp
   have gk':decide (k<k)=false:=by simp
   have HF:Hid (0 ∉ ls):=by
    have h:=HZ.out
    rw[List.take_of_length_le (by rw[HN.out];exact Nat.le_refl _)]at h
    exact h
   clear HZ hlt
   go_wp2_with fail
   go_ret
   exact⟨-1,rfl,⟨fun h=>by omega,fun h=>absurd h HF.out⟩,rfl⟩
theorem qmZ(w:World)(A:Option Addr)(n c:Nat)(ls:List Nat)(hn:ls.length=n)(hN:n<=1000000)(ha:Row w w.heap.size A n 1 (mZ .i64 ls)):
 Calls Tryz.prog 111 #[.slice A n c, .int .i64 0] w fun e w'=>e= .returned (.bool (decide (0∈ls)))/\w'=w:=by
 have D:=hid (bbZb w A n c ls hn hN ha)
 clear hn ha
 go_enter Tryz.func111,Tryz.ntmps111
 go_wp2_with fail
 refine D.out.mono ?_
 rintro e w1 ⟨r,rfl,hr,rfl⟩
 have gr:decide ((0:Int)<=r)=decide (0∈ls):=by rw[decide_eq_decide];exact hr
 clear hr
 go_wp2_with fail
 go_ret
 exact⟨rfl,rfl⟩
end Go.Proofs.YtbgoibedicbkjaaGreatDoor.Body
namespace Go.Proofs.YtbgoibedicbkjaaGreatDoor.Body
open Go.RowKit Mem Own Canon Nums
theorem iwZ:(Tryz.prog.info? 3).map (fun i=>(i.zero,i.size,i.bytes))=some (some (.int .i64 0),1,8):=by kernel_rfl
def urZ(w:World)(gb:Nat)(t:TypeId)(rest:List Value)(room:Nat)(ls:List Nat)(e:Ending)(w':World):Prop:=
 e= .returned (.int .i64 (jhZ room ls))/\Kept (fun x=>x<w.heap.size/\x≠gb) w w'/\(jhZ room ls=0->∃vc vs,Blk w' gb t (vc :: vs :: .int .i64 (dP ls:Nat) :: .int .i64 (dQ ls:Nat) :: rest).toArray/\w'.ownsRow w.heap.size 3 1 vc (kcZ ls).length (cZ .i64 (kcZ ls))/\w'.ownsRow w.heap.size 3 1 vs (qcZ ls).length (cZ .i64 (qcZ ls))/\(∀y,vc.ownBlock=some y->vs.ownBlock≠some y))
theorem zxZ(w:World)(gb:Nat)(t:TypeId)(x2 x3:Value)(rest:List Value)(A:Option Addr)(m c room:Nat)(ls:List Nat)(hB:Blk w gb t (.slice none 0 0 :: .slice none 0 0 :: x2 :: x3 :: rest).toArray)(hti:3≠t)(htu:5≠t)(hm:ls.length=m)(hle:m<=100000)(h8:∀x∈ls,x<=255)(hnil:A=none->m=0/\c=0)(ha:Row w w.heap.size A m 1 (mZ .u8 ls)):
 Calls Tryz.prog 61 #[.pointer (some ⟨gb,0,none⟩), .slice A m c, .int .i64 (room:Nat)] w (urZ w gb t rest room ls):=by
 obtain⟨j0,hj0,hy0,hy1,hy2⟩:=info_parts iwZ
 have D0:=hid (new_any w A m c ls hm hle hnil ha)
 have hle':ls.length<=100000:=by omega
 have DI:=hid (fun wx g B d at_ er most (hm:most<=1000000000) h=>mhZ wx g w.heap.size ls B d at_ er most hle' h8 hm h)
 have DERR:=hid (fun wx g B d at_ er h=>lcZ wx g w.heap.size ls B d at_ er h)
 have DEND:=hid (fun wx g B d at_ er h=>azZ wx g w.heap.size ls B d at_ er h)
 obtain⟨R,hR⟩:∃R,R=jhZ room ls:=⟨_,rfl⟩
 unfold urZ
 rw[<-hR]
 have hrec:gdZ ls<=20000:=qbZ h8 _ _
 have hblk:xgZ ls<=20000:=Nat.le_trans (qbZ h8 _ _) hrec
 have HV8:Hid (∀ (most a:Nat) (er:Int),tZ most ls a er<=most):=fun most a er=>qbZ h8 a er
 have hpl:=emZ (rec:=gdZ ls) (ls:=ls) (xgZ ls) (pZ (gdZ ls) ls (pZ 20000 ls 0 0) (qZ 20000 ls 0 0)) (qZ (gdZ ls) ls (pZ 20000 ls 0 0) (qZ 20000 ls 0 0)) [] [] rfl
 have hpb:=qrZ (rec:=gdZ ls) h8 (xgZ ls) (pZ (gdZ ls) ls (pZ 20000 ls 0 0) (qZ 20000 ls 0 0)) (qZ (gdZ ls) ls (pZ 20000 ls 0 0) (qZ 20000 ls 0 0)) [] [] (fun x hx=>by simp at hx) (fun x hx=>by simp at hx)
 have HPL:=hid hpl
 have HPB:=hid hpb
 have HR:=hid hR
 have HBK:=hid hB
 have hgb:=hB.lt
 clear hm h8 hnil ha hR hB hpl hpb hle hle'
 go_enter Tryz.func61,Tryz.ntmps61
 go_wp2_with fail
 refine D0.out.mono ?_
 rintro e w1 ⟨g,B,d,rfl,hc1,hb1⟩
 have HB1:=hid hb1
 have HC1:=hid hc1
 have hglo:=hc1.lo
 have zw1:=hb1.size
 clear hc1 hb1 D0
 go_wp2_with fail
 refine(DI.out _ g B d 0 0 20000 (by omega) HC1.out).mono ?_
 rintro e w2 ⟨rfl,hc2,hk2⟩
 have HC2:=hid hc2
 have HB2:Hid (Below w.heap.size w w2):=HB1.out.trans (hk2.below fun b h=>⟨by omega,by omega⟩)
 obtain⟨rec,hrec2⟩:∃rec,rec=gdZ ls:=⟨_,rfl⟩
 have HREC:=hid hrec2
 rw[<-hrec2]at hrec
 rw[show tZ 20000 ls 0 0=rec from hrec2.symm]
 clear hc2 hk2 HB1 HC1 hrec2
 go_wp2_with fail
 refine(DI.out _ g B d _ _ rec (by omega) HC2.out).mono ?_
 rintro e w3 ⟨rfl,hc3,hk3⟩
 obtain⟨nb,hnb⟩:∃nb,nb=xgZ ls:=⟨_,rfl⟩
 have HNB:=hid hnb
 rw[<-hnb]at hblk
 rw[show tZ rec ls (pZ 20000 ls 0 0) (qZ 20000 ls 0 0)=nb by rw[hnb,HREC.out];rfl]
 have HB3:Hid (Below w.heap.size w w3):=HB2.out.trans (hk3.below fun b h=>⟨by have:=HB2.out.size;omega,by omega⟩)
 have HX3:=hid (HBK.out.below HB3.out hgb)
 have HI0:Hid (DrI w w3 gb t (x2 :: x3 :: rest) g ls B d (pZ rec ls (pZ 20000 ls 0 0) (qZ 20000 ls 0 0)) (qZ rec ls (pZ 20000 ls 0 0) (qZ 20000 ls 0 0)) [] [] (.slice none 0 0) (.slice none 0 0)):=⟨hc3,HX3.out,World.ownsRow_nil _ _ _ _,World.ownsRow_nil _ _ _ _,(fun y h=>by cases h),Kept.of_below HB3.out (fun x hx=>hx.1),hgb,hti,htu⟩
 have HG0:Hid (mfZ rec ls (nb-0) (pZ rec ls (pZ 20000 ls 0 0) (qZ 20000 ls 0 0)) (qZ rec ls (pZ 20000 ls 0 0) (qZ 20000 ls 0 0)) [] []=yhZ ls):=by
  show _=_
  rw[HREC.out,HNB.out];rfl
 generalize pZ rec ls (pZ 20000 ls 0 0) (qZ 20000 ls 0 0)=a0 at *
 generalize qZ rec ls (pZ 20000 ls 0 0) (qZ 20000 ls 0 0)=e0 at *
 clear hc3 hk3 HC2 HB2 HB3 HX3 HBK hnb
 go_wp2_with fail
 go_loopw [10] (fun iv wr=>∃ (k at_:Nat) (er:Int) (C S:List Nat) (vc vs:Value),k<=nb/\iv= .int .i64 k/\Hid (C.length=k)/\Hid (S.length=k)/\Hid (DrI w wr gb t (x2 :: x3 :: rest) g ls B d at_ er C S vc vs)/\Hid (mfZ rec ls (nb-k) at_ er C S=yhZ ls)) (fun iv _=>nb-(intOf iv).toNat)
 case atStart=>exact⟨0,a0,e0,[],[],_,_,by omega,rfl,rfl,rfl,HI0.out,HG0.out⟩
 case round=>
  obtain⟨k,at_,er,C,S,vc,vs,hk,rfl,HCL,HSL,HI,HG⟩:=hrel
  clear HI0 HG0
  have zr:=HI.out.kept.size
  by_cases hgo:k<nb/\er=0
  ·obtain⟨hkn,rfl⟩:=hgo
   have gk:decide ((k:Int)<(nb:Int))=true:=by simp;omega
   have gk':decide (k<nb)=true:=by simp;omega
   have hG:=HG.out
   rw[show nb-k=(nb-(k+1))+1 by omega,mfZ,if_neg (show ¬((0:Int)≠0) from fun h=>h rfl)]at hG
   have HE0:=hid (DERR.out _ _ _ _ _ _ HI.out.cur)
   have hv1:=HV8.out rec at_ 0
   have D1:=hid (fun wx hx=>DI.out wx g B d at_ 0 rec (by omega) hx)
   have D2:=hid (fun wx hx=>DI.out wx g B d (pZ rec ls at_ 0) (qZ rec ls at_ 0) 8388608 (by omega) hx)
   have hv2:=HV8.out 8388608 (pZ rec ls at_ 0) (qZ rec ls at_ 0)
   generalize tZ 8388608 ls (pZ rec ls at_ 0) (qZ rec ls at_ 0)=s at *
   generalize pZ 8388608 ls (pZ rec ls at_ 0) (qZ rec ls at_ 0)=a2 at *
   generalize qZ 8388608 ls (pZ rec ls at_ 0) (qZ rec ls at_ 0)=e2 at *
   generalize tZ rec ls at_ 0=r at *
   generalize pZ rec ls at_ 0=a1 at *
   generalize qZ rec ls at_ 0=e1 at *
   have HG2:=hid hG
   have c0:=HI.out.cs.1
   obtain⟨Ac,cc,rfl⟩:=bZ HI.out.oc
   obtain⟨p,hp⟩:∃p,p=C.length:=⟨_,rfl⟩
   have hpk:p=k:=by rw[hp,HCL.out]
   rw[<-hp]at c0
   have HP:=hid hp
   have hoc:=HI.out.oc
   rw[<-hp]at hoc
   have HOC:=hid hoc
   clear hG HG hp hoc hpk
   go_wp2_with fail
   refine HE0.out.mono ?_
   rintro e w4 ⟨rfl,rfl⟩
   have hpk:p<=k:=by rw[HP.out,HCL.out];exact Nat.le_refl _
   go_upto_region 7 with fail
   go_region_law(first|(go_simp;go_at_call 86;(with_reducible refine(D1.out _ HI.out.cur.drew).mono ?_);rintro e w5 ⟨rfl,hc5,hk5⟩;have hi5:=HI.out.call hc5 ⟨hk5.os,hk5.tape,hk5.output,hk5.size,hk5.block⟩;have q0:=hi5.cs.1;rw[<-HP.out]at q0;have hoc5:=hi5.oc;rw[<-HP.out]at hoc5;have z5:=hi5.kept.size;have q9:=(hi5.blk.alloc (.cells #[.int .i64 (r:Nat)] 3)).cell 0;simp only[List.getElem?_toArray,List.getElem?_cons_zero,<-HP.out]at q9)|(refine mkZ rfl (.tmp 33) (.tmp 37) 30 rfl w.heap.size 3 j0 _ 1 8 Tryz.underlying30 hj0 hy0 hy1 hy2 rfl (by decide) (.slice Ac p cc) p (cZ .i64 C) (by rfl) (by first|exact hoc5.alloc _|exact(hoc5.alloc _).drew) _ 1 1 [.int .i64 (r:Nat)] (by rfl) (Src.of_blk (Blk.made_at _ _ _ (by simp)) 1 1 1 rfl) (by intro u hu;simp at hu;rcases hu with rfl;rfl) (by unfold maxLen;omega) (by omega) (by simp;omega) ?_;intro A6 c6 w6 hown6 hg6 hat6;have b6:=(hi5.blk.alloc (.cells #[.int .i64 (r:Nat)] 3)).grown hg6 (by rw[HP.out];exact Ne.symm (jZ hi5.oc hi5.blk hti));have r0:=b6.cell 0;have s0:=b6.frozen 0;simp only[List.getElem?_toArray,List.getElem?_cons_zero,<-HP.out]at r0))
   all_goals
    have hi6:=hi5.count (x:=r) (aZ (o:= .cells #[.int .i64 (r:Nat)] 3) (Below.refl w5.heap.size w5)) (by rw[<-HP.out];exact hg6) (by rw[<-HP.out];exact hown6) (by rw[<-HP.out];exact hat6)
    have HI6:=hid hi6
    obtain⟨As,cs,rfl⟩:=bZ hi6.os
    obtain⟨p2,hp2⟩:∃p,p=S.length:=⟨_,rfl⟩
    have hpk2:p2<=k:=by rw[hp2,HSL.out];exact Nat.le_refl _
    have hos6:=hi6.os
    rw[<-hp2]at hos6
    have HOS6:=hid hos6
    have d1:=hi6.cs.2
    rw[<-hp2]at d1
    have HP2:=hid hp2
    have z6:=hi6.kept.size
    clear hi5 hi6 hc5 hk5 hown6 hg6 hat6 b6 r0 s0 q0 q9 hoc5 hos6 hp2 HI c0 D1 HOC
    generalize w6.setCell ⟨gb,0,none⟩ (.slice A6 (p+1) c6)=w7 at *
    go_upto_region 8 with fail
    go_region_law(first|(go_simp;go_at_call 86;refine(D2.out _ HI6.out.cur.drew).mono ?_;rintro e w8 ⟨rfl,hc8,hk8⟩;have hi8:=HI6.out.call hc8 ⟨hk8.os,hk8.tape,hk8.output,hk8.size,hk8.block⟩;have q0:=hi8.cs.2;rw[<-HP2.out]at q0;have hoc8:=hi8.os;rw[<-HP2.out]at hoc8;have z8:=hi8.kept.size;have q9:=(hi8.blk.alloc (.cells #[.int .i64 (s:Nat)] 3)).cell 1;simp only[List.getElem?_toArray,List.getElem?_cons_zero,List.getElem?_cons_succ,<-HP2.out]at q9)|(refine mkZ rfl (.tmp 45) (.tmp 48) 30 rfl w.heap.size 3 j0 _ 1 8 Tryz.underlying30 hj0 hy0 hy1 hy2 rfl (by decide) (.slice As p2 cs) p2 (cZ .i64 S) (by rfl) (by first|exact hoc8.alloc _|exact(hoc8.alloc _).drew) _ 1 1 [.int .i64 (s:Nat)] (by rfl) (Src.of_blk (Blk.made_at _ _ _ (by simp)) 1 1 1 rfl) (by intro u hu;simp at hu;rcases hu with rfl;rfl) (by unfold maxLen;omega) (by omega) (by simp;omega) ?_;intro A9 c9 w9 hown9 hg9 hat9;have b9:=(hi8.blk.alloc (.cells #[.int .i64 (s:Nat)] 3)).grown hg9 (by rw[HP2.out];exact Ne.symm (jZ hi8.os hi8.blk hti));have r0:=b9.cell 1;have s0:=b9.frozen 1;simp only[List.getElem?_toArray,List.getElem?_cons_zero,List.getElem?_cons_succ,<-HP2.out]at r0))
    all_goals
     have hi9:=hi8.size (x:=s) (aZ (o:= .cells #[.int .i64 (s:Nat)] 3) (Below.refl w8.heap.size w8)) (by rw[<-HP2.out];exact hg9) (by rw[<-HP2.out];exact hown9) (by rw[<-HP2.out];exact hat9)
     have HI9:=hid hi9
     have HCL9:Hid ((C++ [r]).length=k+1):=by show _=_;rw[List.length_append,HCL.out];rfl
     have HSL9:Hid ((S++ [s]).length=k+1):=by show _=_;rw[List.length_append,HSL.out];rfl
     clear hi8 hi9 hc8 hk8 hown9 hg9 hat9 b9 r0 s0 q0 q9 hoc8 HI6 HOS6 d1
     generalize w9.setCell ⟨gb,1,none⟩ (.slice A9 (p2+1) c9)=w10 at *
     go_wp2_with fail
     go_roundw
     case measure=>go_light;simp[intOf];omega
     case rel=>go_light;exact⟨k+1,a2,e2,C++ [r],S++ [s], .slice A6 (p+1) c6, .slice A9 (p2+1) c9,by omega,by first|rfl|go_num,HCL9.out,HSL9.out,HI9.out,HG2.out⟩
  ·have HGE:Hid (yhZ ls=(C,S,at_,er)):=by
    have h:=HG.out
    by_cases hkn:k<nb
    ·rw[svZ (fun h=>hgo ⟨hkn,h⟩)]at h
     exact h.symm
    ·rw[show nb-k=0 by omega,mfZ]at h
     exact h.symm
   have HE0:=hid (DERR.out _ _ _ _ _ _ HI.out.cur)
   clear HG
   by_cases hkn:k<nb
   ·have gk:decide ((k:Int)<(nb:Int))=true:=by simp;omega
    have gk':decide (k<nb)=true:=by simp;omega
    have hne:er≠0:=fun h=>hgo ⟨hkn,h⟩
    have gE:(er==0)=false:=by simpa using hne
    clear hgo hne
    go_wp2_with fail
    refine HE0.out.mono ?_
    rintro e w4 ⟨rfl,rfl⟩
    have hP:dP ls=tZ 8388608 ls at_ er:=by unfold dP;rw[HGE.out]
    have hPA:dPA ls=pZ 8388608 ls at_ er:=by unfold dPA;rw[HGE.out]
    have hPE:dPE ls=qZ 8388608 ls at_ er:=by unfold dPE;rw[HGE.out]
    have hC:kcZ ls=C:=by unfold kcZ;rw[HGE.out]
    have hS:qcZ ls=S:=by unfold qcZ;rw[HGE.out]
    have D3:=hid (fun wx hx=>DI.out wx g B d at_ er 8388608 (by omega) hx)
    rw[<-hP,<-hPA,<-hPE]at D3
    have D4:=hid (fun wx hx=>DI.out wx g B d (dPA ls) (dPE ls) 8388608 (by omega) hx)
    rw[show tZ 8388608 ls (dPA ls) (dPE ls)=dQ ls from rfl]at D4
    have D5:=hid (fun wx hx=>DEND.out wx g B d (pZ 8388608 ls (dPA ls) (dPE ls)) (qZ 8388608 ls (dPA ls) (dPE ls)) hx)
    rw[show vgZ ls (pZ 8388608 ls (dPA ls) (dPE ls)) (qZ 8388608 ls (dPA ls) (dPE ls))=dE ls from rfl]at D5
    have hpv:dP ls<=8388608:=by rw[hP];exact HV8.out _ _ _
    have hqv:dQ ls<=8388608:=HV8.out _ _ _
    have hr:=HR.out
    unfold jhZ at hr
    rw[hC,hS]at hr
    have HEC:=hid hC
    have HES:=hid hS
    have hcb:∀x∈C,x<=rec:=fun x hx=>by have h:=HPB.out.1 x (show x∈kcZ ls by rw[hC];exact hx);rw[HREC.out];exact h
    have hsb:∀x∈S,x<=8388608:=fun x hx=>HPB.out.2 x (show x∈qcZ ls by rw[hS];exact hx)
    have hcl:C.length<=20000:=by rw[HCL.out];omega
    have hsl:S.length<=20000:=by rw[HSL.out];omega
    have hcs:C.sum<=1000000000000000:=Nat.le_trans (zhZ C rec hcb) (Nat.le_trans (Nat.mul_le_mul hcl hrec) (by decide))
    have hss:S.sum<=500000000000000:=Nat.le_trans (zhZ S 8388608 hsb) (Nat.le_trans (Nat.mul_le_mul_right _ hsl) (by decide))
    rw[<-HREC.out]at hr
    obtain⟨P,hP2⟩:∃P,P=dP ls:=⟨_,rfl⟩
    obtain⟨Q,hQ2⟩:∃Q,Q=dQ ls:=⟨_,rfl⟩
    obtain⟨E,hE2⟩:∃E,E=dE ls:=⟨_,rfl⟩
    rw[<-hP2]at D3 hpv hr
    rw[<-hQ2]at D4 hqv hr
    have HEP:=hid hP2.symm
    have HEQ:=hid hQ2.symm
    rw[<-hE2]at D5 hr
    generalize dPA ls=pa at *
    generalize dPE ls=pe at *
    generalize pZ 8388608 ls pa pe=qa at *
    generalize qZ 8388608 ls pa pe=qe at *
    obtain⟨k2,hk2⟩:∃k2,k2=C.length:=⟨_,rfl⟩
    obtain⟨k3,hk3⟩:∃k3,k3=S.length:=⟨_,rfl⟩
    have hoc:=HI.out.oc
    have hos:=HI.out.os
    rw[<-hk2]at hoc hcl
    rw[<-hk3]at hos hsl
    obtain⟨Ac,cc,rfl⟩:=bZ hoc
    obtain⟨As,cs,rfl⟩:=bZ hos
    have HKC:=hid hk2
    have HKS:=hid hk3
    have HR2:=hid hr
    have DC0:=hid (fun wx (h:wx.ownsRow w.heap.size 3 1 (.slice Ac k2 cc) k2 (cZ .i64 C))=>qmZ wx Ac k2 cc C hk2.symm (by omega) (own_ints h hk2.symm))
    have DS1:=hid (fun wx (h:wx.ownsRow w.heap.size 3 1 (.slice Ac k2 cc) k2 (cZ .i64 C))=>zkZ wx Ac k2 cc C hk2.symm (by omega) hcs (own_ints h hk2.symm))
    have DS2:=hid (fun wx (h:wx.ownsRow w.heap.size 3 1 (.slice As k3 cs) k3 (cZ .i64 S))=>zkZ wx As k3 cs S hk3.symm (by omega) (by omega) (own_ints h hk3.symm))
    obtain⟨CS,hCS⟩:∃x,x=C.sum:=⟨_,rfl⟩
    obtain⟨SS,hSS⟩:∃x,x=S.sum:=⟨_,rfl⟩
    rw[<-hCS]at DS1 hcs
    rw[<-hSS]at DS2 hss
    have HCS:=hid hCS
    have HSS:=hid hSS
    clear hP hPA hPE hC hS hr HR HGE hcb hsb hP2 hQ2 hE2 hk2 hk3 hCS hSS hoc hos HPL HPB HREC HV8 DI DEND DERR HE0 HCL HSL
    go_wp2_with fail
    refine(D3.out _ HI.out.cur).mono ?_
    rintro e w5 ⟨rfl,hc5,hk5⟩
    have hi5:=HI.out.call hc5 hk5
    have b2:=hi5.blk.cell 2
    have f2:=hi5.blk.frozen 2
    simp only[List.getElem?_toArray,List.getElem?_cons_zero,List.getElem?_cons_succ]at b2
    have HI5:Hid (DrI w (w5.setCell ⟨gb,2,none⟩ (.int .i64 (P:Nat))) gb t (.int .i64 (P:Nat) :: x3 :: rest) g ls B d pa pe C S (.slice Ac C.length cc) (.slice As S.length cs)):=by
     rw[<-HKC.out,<-HKS.out]
     exact hi5.third
    clear hc5 hk5 hi5 D3 HI
    go_wp2_with fail
    refine(D4.out _ HI5.out.cur).mono ?_
    rintro e w6 ⟨rfl,hc6,hk6⟩
    have hi6:=HI5.out.call hc6 hk6
    have b3:=hi6.blk.cell 3
    have f3:=hi6.blk.frozen 3
    simp only[List.getElem?_toArray,List.getElem?_cons_zero,List.getElem?_cons_succ]at b3
    have HI6:=hid (hi6.fourth (u:= .int .i64 (Q:Nat)))
    clear hc6 hk6 hi6 D4 HI5 b2 f2
    go_wp2_with fail
    refine(D5.out _ HI6.out.cur).mono ?_
    rintro e w7 ⟨rfl,hc7,hk7⟩
    have hi7:=HI6.out.call hc7 ⟨hk7.os,hk7.tape,hk7.output,hk7.size,fun x hx=>hk7.block x hx.2⟩
    have HI7:=hid hi7
    clear hc7 hk7 D5 HI6 b3 f3
    by_cases hE:E=0
    ·subst hE
     have hr:=HR2.out
     rw[if_neg (show ¬((0:Int)≠0) from fun h=>h rfl)]at hr
     have c0:=hi7.blk.cell 0
     have c1:=hi7.blk.cell 1
     have c2:=hi7.blk.cell 2
     have c3:=hi7.blk.cell 3
     simp only[List.getElem?_toArray,List.getElem?_cons_zero,List.getElem?_cons_succ]at c0 c1 c2 c3
     have hoc:=hi7.oc
     have hos:=hi7.os
     rw[<-HKC.out]at hoc c0
     rw[<-HKS.out]at hos c1
     have E0:Hid (∀q,Calls Tryz.prog 111 #[.slice Ac k2 cc, .int .i64 0] (w7.drewN q) fun e w'=>e= .returned (.bool (decide (0∈C)))/\w'=w7.drewN q):=fun q=>DC0.out _ (eZ hoc (fun y _=>rfl))
     have E1:Hid (∀q,Calls Tryz.prog 107 #[.slice Ac k2 cc] (w7.drewN q) fun e w'=>e= .returned (.int .i64 (CS:Nat))/\w'=w7.drewN q):=fun q=>DS1.out _ (eZ hoc (fun y _=>rfl))
     have E2:Hid (∀q,Calls Tryz.prog 107 #[.slice As k3 cs] (w7.drewN q) fun e w'=>e= .returned (.int .i64 (SS:Nat))/\w'=w7.drewN q):=fun q=>DS2.out _ (eZ hos (fun y _=>rfl))
     clear hi7 hoc hos DC0 DS1 DS2
     by_cases hz:0∈C
     ·have HF:Hid (R=2):=by rw[if_pos (.inl hz)]at hr;exact hr
      rw[decide_eq_true hz]at E0
      clear hz hr HR2
      go_wp2_with fail
      go_quiet (first|(go_at_call 111;(with_reducible exact Calls.quiet_of_same (E0.out _)))|(go_at_call 107;first|(with_reducible exact Calls.quiet_of_same (E1.out _))|(with_reducible exact Calls.quiet_of_same (E2.out _))))
      go_wp2_with fail
      go_ret
      rw[HF.out]
      exact⟨rfl,HI7.out.kept.drewN _,fun h=>absurd h (by decide)⟩
     ·rw[decide_eq_false hz]at E0
      by_cases h2:CS=rec
      ·have gn:((CS:Int) != (rec:Int))=false:=by rw[h2];simp
       have s1:IntKind.i64.wrap ((SS:Int)+(P:Int))=((SS+P:Nat):Int):=by rw[IntWalk.i64_in _ (by omega)];omega
       have s2:IntKind.i64.wrap (((SS+P:Nat):Int)+(Q:Int))=((SS+P+Q:Nat):Int):=by rw[IntWalk.i64_in _ (by omega)];omega
       have s2':IntKind.i64.wrap ((SS:Int)+(P:Int)+(Q:Int))=((SS+P+Q:Nat):Int):=by rw[IntWalk.i64_in _ (by omega)];omega
       by_cases h3:SS+P+Q=room
       ·have g3:(((SS+P+Q:Nat):Int) != (room:Int))=false:=by rw[h3];simp
        have HF:Hid (R=0):=by
         rw[if_neg (fun h=>by
          rcases h with h|h|h
          ·exact hz h
          ·exact h (by rw[<-HCS.out];exact h2)
          ·exact h (by rw[<-HSS.out];exact h3))]at hr
         exact hr
        obtain⟨TT,hTT⟩:∃TT,TT=SS+P+Q:=⟨_,rfl⟩
        rw[<-hTT]at s2 s2' g3
        clear hz h2 h3 hTT hr HR2
        go_wp2_with fail
        go_quiet (first|(go_at_call 111;(with_reducible exact Calls.quiet_of_same (E0.out _)))|(go_at_call 107;first|(with_reducible exact Calls.quiet_of_same (E1.out _))|(with_reducible exact Calls.quiet_of_same (E2.out _))))
        go_wp2_with fail
        go_ret
        rw[HF.out,HEP.out,HEQ.out,HEC.out,HES.out]
        exact⟨rfl,HI7.out.kept.drewN _,fun _=>⟨_,_,HI7.out.blk.drewN _,eZ HI7.out.oc (fun y _=>rfl),eZ HI7.out.os (fun y _=>rfl),HI7.out.ap⟩⟩
       ·have g3:(((SS+P+Q:Nat):Int) != (room:Int))=true:=by rw[bne_iff_ne];omega
        have HF:Hid (R=2):=by rw[if_pos (.inr (.inr (by rw[<-HSS.out];exact h3)))]at hr;exact hr
        obtain⟨TT,hTT⟩:∃TT,TT=SS+P+Q:=⟨_,rfl⟩
        rw[<-hTT]at s2 s2' g3
        clear hz h2 h3 hTT hr HR2
        go_wp2_with fail
        go_quiet (first|(go_at_call 111;(with_reducible exact Calls.quiet_of_same (E0.out _)))|(go_at_call 107;first|(with_reducible exact Calls.quiet_of_same (E1.out _))|(with_reducible exact Calls.quiet_of_same (E2.out _))))
        go_wp2_with fail
        go_ret
        rw[HF.out]
        exact⟨rfl,HI7.out.kept.drewN _,fun h=>absurd h (by decide)⟩
      ·have gn:((CS:Int) != (rec:Int))=true:=by rw[bne_iff_ne];omega
       have HF:Hid (R=2):=by rw[if_pos (.inr (.inl (by rw[<-HCS.out];exact h2)))]at hr;exact hr
       clear hz h2 hr HR2
       go_wp2_with fail
       go_quiet (first|(go_at_call 111;(with_reducible exact Calls.quiet_of_same (E0.out _)))|(go_at_call 107;first|(with_reducible exact Calls.quiet_of_same (E1.out _))|(with_reducible exact Calls.quiet_of_same (E2.out _))))
       go_wp2_with fail
       go_ret
       rw[HF.out]
       exact⟨rfl,HI7.out.kept.drewN _,fun h=>absurd h (by decide)⟩
    ·have gE:(E != 0)=true:=by simpa using hE
     have HF:Hid (R=E):=by have h:=HR2.out;rw[if_pos hE]at h;exact h
     have HNE:=hid hE
     clear hE HR2 hi7
     go_wp2_with fail
     go_ret
     rw[HF.out]
     exact⟨rfl,HI7.out.kept,fun h=>absurd h HNE.out⟩
   ·have gk:decide ((k:Int)<(nb:Int))=false:=by simp;omega
    have gk':decide (k<nb)=false:=by simp;omega
    clear hgo
    obtain⟨w4,rfl⟩:∃w4:World,w4=wr:=⟨_,rfl⟩
    have hP:dP ls=tZ 8388608 ls at_ er:=by unfold dP;rw[HGE.out]
    have hPA:dPA ls=pZ 8388608 ls at_ er:=by unfold dPA;rw[HGE.out]
    have hPE:dPE ls=qZ 8388608 ls at_ er:=by unfold dPE;rw[HGE.out]
    have hC:kcZ ls=C:=by unfold kcZ;rw[HGE.out]
    have hS:qcZ ls=S:=by unfold qcZ;rw[HGE.out]
    have D3:=hid (fun wx hx=>DI.out wx g B d at_ er 8388608 (by omega) hx)
    rw[<-hP,<-hPA,<-hPE]at D3
    have D4:=hid (fun wx hx=>DI.out wx g B d (dPA ls) (dPE ls) 8388608 (by omega) hx)
    rw[show tZ 8388608 ls (dPA ls) (dPE ls)=dQ ls from rfl]at D4
    have D5:=hid (fun wx hx=>DEND.out wx g B d (pZ 8388608 ls (dPA ls) (dPE ls)) (qZ 8388608 ls (dPA ls) (dPE ls)) hx)
    rw[show vgZ ls (pZ 8388608 ls (dPA ls) (dPE ls)) (qZ 8388608 ls (dPA ls) (dPE ls))=dE ls from rfl]at D5
    have hpv:dP ls<=8388608:=by rw[hP];exact HV8.out _ _ _
    have hqv:dQ ls<=8388608:=HV8.out _ _ _
    have hr:=HR.out
    unfold jhZ at hr
    rw[hC,hS]at hr
    have HEC:=hid hC
    have HES:=hid hS
    have hcb:∀x∈C,x<=rec:=fun x hx=>by have h:=HPB.out.1 x (show x∈kcZ ls by rw[hC];exact hx);rw[HREC.out];exact h
    have hsb:∀x∈S,x<=8388608:=fun x hx=>HPB.out.2 x (show x∈qcZ ls by rw[hS];exact hx)
    have hcl:C.length<=20000:=by rw[HCL.out];omega
    have hsl:S.length<=20000:=by rw[HSL.out];omega
    have hcs:C.sum<=1000000000000000:=Nat.le_trans (zhZ C rec hcb) (Nat.le_trans (Nat.mul_le_mul hcl hrec) (by decide))
    have hss:S.sum<=500000000000000:=Nat.le_trans (zhZ S 8388608 hsb) (Nat.le_trans (Nat.mul_le_mul_right _ hsl) (by decide))
    rw[<-HREC.out]at hr
    obtain⟨P,hP2⟩:∃P,P=dP ls:=⟨_,rfl⟩
    obtain⟨Q,hQ2⟩:∃Q,Q=dQ ls:=⟨_,rfl⟩
    obtain⟨E,hE2⟩:∃E,E=dE ls:=⟨_,rfl⟩
    rw[<-hP2]at D3 hpv hr
    rw[<-hQ2]at D4 hqv hr
    have HEP:=hid hP2.symm
    have HEQ:=hid hQ2.symm
    rw[<-hE2]at D5 hr
    generalize dPA ls=pa at *
    generalize dPE ls=pe at *
    generalize pZ 8388608 ls pa pe=qa at *
    generalize qZ 8388608 ls pa pe=qe at *
    obtain⟨k2,hk2⟩:∃k2,k2=C.length:=⟨_,rfl⟩
    obtain⟨k3,hk3⟩:∃k3,k3=S.length:=⟨_,rfl⟩
    have hoc:=HI.out.oc
    have hos:=HI.out.os
    rw[<-hk2]at hoc hcl
    rw[<-hk3]at hos hsl
    obtain⟨Ac,cc,rfl⟩:=bZ hoc
    obtain⟨As,cs,rfl⟩:=bZ hos
    have HKC:=hid hk2
    have HKS:=hid hk3
    have HR2:=hid hr
    have DC0:=hid (fun wx (h:wx.ownsRow w.heap.size 3 1 (.slice Ac k2 cc) k2 (cZ .i64 C))=>qmZ wx Ac k2 cc C hk2.symm (by omega) (own_ints h hk2.symm))
    have DS1:=hid (fun wx (h:wx.ownsRow w.heap.size 3 1 (.slice Ac k2 cc) k2 (cZ .i64 C))=>zkZ wx Ac k2 cc C hk2.symm (by omega) hcs (own_ints h hk2.symm))
    have DS2:=hid (fun wx (h:wx.ownsRow w.heap.size 3 1 (.slice As k3 cs) k3 (cZ .i64 S))=>zkZ wx As k3 cs S hk3.symm (by omega) (by omega) (own_ints h hk3.symm))
    obtain⟨CS,hCS⟩:∃x,x=C.sum:=⟨_,rfl⟩
    obtain⟨SS,hSS⟩:∃x,x=S.sum:=⟨_,rfl⟩
    rw[<-hCS]at DS1 hcs
    rw[<-hSS]at DS2 hss
    have HCS:=hid hCS
    have HSS:=hid hSS
    clear hP hPA hPE hC hS hr HR HGE hcb hsb hP2 hQ2 hE2 hk2 hk3 hCS hSS hoc hos HPL HPB HREC HV8 DI DEND DERR HE0 HCL HSL
    go_wp2_with fail
    refine(D3.out _ HI.out.cur).mono ?_
    rintro e w5 ⟨rfl,hc5,hk5⟩
    have hi5:=HI.out.call hc5 hk5
    have b2:=hi5.blk.cell 2
    have f2:=hi5.blk.frozen 2
    simp only[List.getElem?_toArray,List.getElem?_cons_zero,List.getElem?_cons_succ]at b2
    have HI5:Hid (DrI w (w5.setCell ⟨gb,2,none⟩ (.int .i64 (P:Nat))) gb t (.int .i64 (P:Nat) :: x3 :: rest) g ls B d pa pe C S (.slice Ac C.length cc) (.slice As S.length cs)):=by
     rw[<-HKC.out,<-HKS.out]
     exact hi5.third
    clear hc5 hk5 hi5 D3 HI
    go_wp2_with fail
    refine(D4.out _ HI5.out.cur).mono ?_
    rintro e w6 ⟨rfl,hc6,hk6⟩
    have hi6:=HI5.out.call hc6 hk6
    have b3:=hi6.blk.cell 3
    have f3:=hi6.blk.frozen 3
    simp only[List.getElem?_toArray,List.getElem?_cons_zero,List.getElem?_cons_succ]at b3
    have HI6:=hid (hi6.fourth (u:= .int .i64 (Q:Nat)))
    clear hc6 hk6 hi6 D4 HI5 b2 f2
    go_wp2_with fail
    refine(D5.out _ HI6.out.cur).mono ?_
    rintro e w7 ⟨rfl,hc7,hk7⟩
    have hi7:=HI6.out.call hc7 ⟨hk7.os,hk7.tape,hk7.output,hk7.size,fun x hx=>hk7.block x hx.2⟩
    have HI7:=hid hi7
    clear hc7 hk7 D5 HI6 b3 f3
    by_cases hE:E=0
    ·subst hE
     have hr:=HR2.out
     rw[if_neg (show ¬((0:Int)≠0) from fun h=>h rfl)]at hr
     have c0:=hi7.blk.cell 0
     have c1:=hi7.blk.cell 1
     have c2:=hi7.blk.cell 2
     have c3:=hi7.blk.cell 3
     simp only[List.getElem?_toArray,List.getElem?_cons_zero,List.getElem?_cons_succ]at c0 c1 c2 c3
     have hoc:=hi7.oc
     have hos:=hi7.os
     rw[<-HKC.out]at hoc c0
     rw[<-HKS.out]at hos c1
     have E0:Hid (∀q,Calls Tryz.prog 111 #[.slice Ac k2 cc, .int .i64 0] (w7.drewN q) fun e w'=>e= .returned (.bool (decide (0∈C)))/\w'=w7.drewN q):=fun q=>DC0.out _ (eZ hoc (fun y _=>rfl))
     have E1:Hid (∀q,Calls Tryz.prog 107 #[.slice Ac k2 cc] (w7.drewN q) fun e w'=>e= .returned (.int .i64 (CS:Nat))/\w'=w7.drewN q):=fun q=>DS1.out _ (eZ hoc (fun y _=>rfl))
     have E2:Hid (∀q,Calls Tryz.prog 107 #[.slice As k3 cs] (w7.drewN q) fun e w'=>e= .returned (.int .i64 (SS:Nat))/\w'=w7.drewN q):=fun q=>DS2.out _ (eZ hos (fun y _=>rfl))
     clear hi7 hoc hos DC0 DS1 DS2
     by_cases hz:0∈C
     ·have HF:Hid (R=2):=by rw[if_pos (.inl hz)]at hr;exact hr
      rw[decide_eq_true hz]at E0
      clear hz hr HR2
      go_wp2_with fail
      go_quiet (first|(go_at_call 111;(with_reducible exact Calls.quiet_of_same (E0.out _)))|(go_at_call 107;first|(with_reducible exact Calls.quiet_of_same (E1.out _))|(with_reducible exact Calls.quiet_of_same (E2.out _))))
      go_wp2_with fail
      go_ret
      rw[HF.out]
      exact⟨rfl,HI7.out.kept.drewN _,fun h=>absurd h (by decide)⟩
     ·rw[decide_eq_false hz]at E0
      by_cases h2:CS=rec
      ·have gn:((CS:Int) != (rec:Int))=false:=by rw[h2];simp
       have s1:IntKind.i64.wrap ((SS:Int)+(P:Int))=((SS+P:Nat):Int):=by rw[IntWalk.i64_in _ (by omega)];omega
       have s2:IntKind.i64.wrap (((SS+P:Nat):Int)+(Q:Int))=((SS+P+Q:Nat):Int):=by rw[IntWalk.i64_in _ (by omega)];omega
       have s2':IntKind.i64.wrap ((SS:Int)+(P:Int)+(Q:Int))=((SS+P+Q:Nat):Int):=by rw[IntWalk.i64_in _ (by omega)];omega
       by_cases h3:SS+P+Q=room
       ·have g3:(((SS+P+Q:Nat):Int) != (room:Int))=false:=by rw[h3];simp
        have HF:Hid (R=0):=by
         rw[if_neg (fun h=>by
          rcases h with h|h|h
          ·exact hz h
          ·exact h (by rw[<-HCS.out];exact h2)
          ·exact h (by rw[<-HSS.out];exact h3))]at hr
         exact hr
        obtain⟨TT,hTT⟩:∃TT,TT=SS+P+Q:=⟨_,rfl⟩
        rw[<-hTT]at s2 s2' g3
        clear hz h2 h3 hTT hr HR2
        go_wp2_with fail
        go_quiet (first|(go_at_call 111;(with_reducible exact Calls.quiet_of_same (E0.out _)))|(go_at_call 107;first|(with_reducible exact Calls.quiet_of_same (E1.out _))|(with_reducible exact Calls.quiet_of_same (E2.out _))))
        go_wp2_with fail
        go_ret
        rw[HF.out,HEP.out,HEQ.out,HEC.out,HES.out]
        exact⟨rfl,HI7.out.kept.drewN _,fun _=>⟨_,_,HI7.out.blk.drewN _,eZ HI7.out.oc (fun y _=>rfl),eZ HI7.out.os (fun y _=>rfl),HI7.out.ap⟩⟩
       ·have g3:(((SS+P+Q:Nat):Int) != (room:Int))=true:=by rw[bne_iff_ne];omega
        have HF:Hid (R=2):=by rw[if_pos (.inr (.inr (by rw[<-HSS.out];exact h3)))]at hr;exact hr
        obtain⟨TT,hTT⟩:∃TT,TT=SS+P+Q:=⟨_,rfl⟩
        rw[<-hTT]at s2 s2' g3
        clear hz h2 h3 hTT hr HR2
        go_wp2_with fail
        go_quiet (first|(go_at_call 111;(with_reducible exact Calls.quiet_of_same (E0.out _)))|(go_at_call 107;first|(with_reducible exact Calls.quiet_of_same (E1.out _))|(with_reducible exact Calls.quiet_of_same (E2.out _))))
        go_wp2_with fail
        go_ret
        rw[HF.out]
        exact⟨rfl,HI7.out.kept.drewN _,fun h=>absurd h (by decide)⟩
      ·have gn:((CS:Int) != (rec:Int))=true:=by rw[bne_iff_ne];omega
       have HF:Hid (R=2):=by rw[if_pos (.inr (.inl (by rw[<-HCS.out];exact h2)))]at hr;exact hr
       clear hz h2 hr HR2
       go_wp2_with fail
       go_quiet (first|(go_at_call 111;(with_reducible exact Calls.quiet_of_same (E0.out _)))|(go_at_call 107;first|(with_reducible exact Calls.quiet_of_same (E1.out _))|(with_reducible exact Calls.quiet_of_same (E2.out _))))
       go_wp2_with fail
       go_ret
       rw[HF.out]
       exact⟨rfl,HI7.out.kept.drewN _,fun h=>absurd h (by decide)⟩
    ·have gE:(E != 0)=true:=by simpa using hE
     have HF:Hid (R=E):=by have h:=HR2.out;rw[if_pos hE]at h;exact h
     have HNE:=hid hE
     clear hE HR2 hi7
     go_wp2_with fail
     go_ret
     rw[HF.out]
     exact⟨rfl,HI7.out.kept,fun h=>absurd h HNE.out⟩
end Go.Proofs.YtbgoibedicbkjaaGreatDoor.Body
namespace Go.Proofs.YtbgoibedicbkjaaGreatDoor.Body
open Go.RowKit Mem Own Canon
theorem jwZ(w:World)(gb n c:Nat)(A:Option Addr)(ls:List Nat)(hc:w.cell? ⟨gb,0,none⟩=some (.slice A n c))(hn:ls.length=n)(hN:n<=1000000)(hs:ls.sum<=1000000000)(ha:Row w w.heap.size A n 1 (mZ .i64 ls)):
 Calls Tryz.prog 64 #[.pointer (some ⟨gb,0,none⟩)] w fun e w'=>e= .returned (.int .i64 (ls.sum:Nat))/\w'=w:=by
 have D:=hid (sum_any w A n c ls hn hN hs ha)
 generalize ls.sum=S at *
 clear hn ha
 go_enter Tryz.func64,Tryz.ntmps64
 go_wp2_with fail
 refine D.out.mono ?_
 rintro e w1 ⟨rfl,rfl⟩
 go_wp2_with fail
 go_ret
 exact⟨rfl,rfl⟩
end Go.Proofs.YtbgoibedicbkjaaGreatDoor.Body
