/- The contracts of maps.Keys and slices.Sorted that the walks call, laid -/
import Derived.Test.YtmlaajebadfkoaaGreatDoorZTwoPacks15
import Derived.Shelf.SlIter.Nil
import Derived.Shelf.SortM.Plain
import Derived.Shelf.SortM.SortNone
import Derived.Ground.GgzProg
import Derived.Ground.SlgmProg
import Derived.Test.YtmlaajebadfkoaaGreatDoorProg
import Derived.Maps.OwnSet
import Derived.Sort.KeysCollected
namespace Go.Proofs.YtmlaajebadfkoaaGreatDoor end Go.Proofs.YtmlaajebadfkoaaGreatDoor open Go.Proofs.YtmlaajebadfkoaaGreatDoor
namespace Go.Proofs
open Go.Shelf
def Tryz.keys132_ren:Go.Shelf.Ren:=⟨fun|7=>132|10=>182|n=>n,fun|23=>165|26=>9|3=>38|28=>169|0=>0|27=>168|33=>229|4=>4|n=>n,fun|n=>n⟩
theorem Tryz.keys132:Go.Proofs.SlLaysZ.n7 Tryz.prog Tryz.keys132_ren:={
 mixed:=by kernel_rfl
 f7:=⟨Tryz.f132.name,by decide,Tryz.func132.trans (congrArg some (by kernel_rfl))⟩
 f10:=⟨Tryz.f182.name,by decide,Tryz.func182.trans (congrArg some (by kernel_rfl))⟩
 t0:=Tryz.underlying0
 a0:=Tryz.isAgg0
 z0:=Tryz.sizeOf0
 v0:=Tryz.zeroValue0
 t4:=Tryz.underlying4
 a4:=Tryz.isAgg4
 z4:=Tryz.sizeOf4
 v4:=Tryz.zeroValue4
 t23:=Tryz.underlying165
 a23:=Tryz.isAgg165
 z23:=Tryz.sizeOf165
 v23:=Tryz.zeroValue165
 t26:=Tryz.underlying9
 a26:=Tryz.isAgg9
 z26:=Tryz.sizeOf9
 v26:=Tryz.zeroValue9
 t27:=Tryz.underlying168
 a27:=Tryz.isAgg168
 z27:=Tryz.sizeOf168
 v27:=Tryz.zeroValue168
 t28:=Tryz.underlying169
 a28:=Tryz.isAgg169
 z28:=Tryz.sizeOf169
 v28:=Tryz.zeroValue169
 t33:=Tryz.underlying229
 a33:=Tryz.isAgg229
 z33:=Tryz.sizeOf229
 v33:=Tryz.zeroValue229}
def Tryz.sorted131_ren:Go.Shelf.Ren:=⟨fun|6=>131|8=>181|9=>179|11=>230|13=>229|12=>228|23=>270|24=>271|14=>261|15=>262|16=>263|17=>264|18=>265|19=>266|20=>267|21=>268|22=>269|25=>290|26=>291|27=>292|28=>293|29=>294|30=>295|31=>306|n=>n,fun|26=>9|28=>169|24=>41|0=>0|3=>3|37=>186|48=>142|50=>56|4=>4|40=>323|39=>322|45=>57|5=>5|9=>9|51=>361|55=>364|57=>376|58=>210|33=>229|n=>n,fun|n=>n⟩
theorem Tryz.sorted131:Go.Proofs.SlLaysZ.n6 Tryz.prog Tryz.sorted131_ren:={
 mixed:=by kernel_rfl
 f6:=⟨Tryz.f131.name,by decide,Tryz.func131.trans (congrArg some (by kernel_rfl))⟩
 f8:=⟨Tryz.f181.name,by decide,Tryz.func181.trans (congrArg some (by kernel_rfl))⟩
 f11:=⟨Tryz.f230.name,by decide,Tryz.func230.trans (congrArg some (by kernel_rfl))⟩
 t0:=Tryz.underlying0
 a0:=Tryz.isAgg0
 z0:=Tryz.sizeOf0
 v0:=Tryz.zeroValue0
 t24:=Tryz.underlying41
 a24:=Tryz.isAgg41
 z24:=Tryz.sizeOf41
 v24:=Tryz.zeroValue41
 t26:=Tryz.underlying9
 a26:=Tryz.isAgg9
 z26:=Tryz.sizeOf9
 v26:=Tryz.zeroValue9
 t28:=Tryz.underlying169
 a28:=Tryz.isAgg169
 z28:=Tryz.sizeOf169
 v28:=Tryz.zeroValue169
 i26:=by kernel_rfl}
def Tryz.sort179_ren:Go.Shelf.Ren:=⟨fun|6=>179|8=>229|9=>228|19=>270|20=>271|21=>261|22=>262|23=>263|24=>264|25=>265|26=>266|27=>267|28=>268|29=>269|36=>290|31=>291|32=>292|37=>293|38=>294|39=>295|41=>306|n=>n,fun|27=>41|29=>9|3=>3|32=>186|26=>41|0=>0|44=>142|46=>56|4=>4|36=>323|35=>322|41=>57|5=>5|9=>9|53=>361|57=>364|63=>376|64=>210|n=>n,fun|n=>n⟩
theorem Tryz.sort179:Go.Proofs.SlLaysM.n6 Tryz.prog Tryz.sort179_ren:={
 mixed:=by kernel_rfl
 f6:=⟨Tryz.f179.name,by decide,Tryz.func179.trans (congrArg some (by kernel_rfl))⟩
 f8:=Tryz.func229.trans (congrArg some (by kernel_rfl))
 f9:=⟨Tryz.f228.name,by decide,Tryz.func228.trans (congrArg some (by kernel_rfl))⟩
 f19:=Tryz.func270.trans (congrArg some (by kernel_rfl))
 f20:=Tryz.func271.trans (congrArg some (by kernel_rfl))
 f21:=⟨Tryz.f261.name,by decide,Tryz.func261.trans (congrArg some (by kernel_rfl))⟩
 f22:=⟨Tryz.f262.name,by decide,Tryz.func262.trans (congrArg some (by kernel_rfl))⟩
 f23:=⟨Tryz.f263.name,by decide,Tryz.func263.trans (congrArg some (by kernel_rfl))⟩
 f24:=⟨Tryz.f264.name,by decide,Tryz.func264.trans (congrArg some (by kernel_rfl))⟩
 f25:=⟨Tryz.f265.name,by decide,Tryz.func265.trans (congrArg some (by kernel_rfl))⟩
 f26:=⟨Tryz.f266.name,by decide,Tryz.func266.trans (congrArg some (by kernel_rfl))⟩
 f27:=⟨Tryz.f267.name,by decide,Tryz.func267.trans (congrArg some (by kernel_rfl))⟩
 f28:=⟨Tryz.f268.name,by decide,Tryz.func268.trans (congrArg some (by kernel_rfl))⟩
 f29:=⟨Tryz.f269.name,by decide,Tryz.func269.trans (congrArg some (by kernel_rfl))⟩
 f31:=Tryz.func291.trans (congrArg some (by kernel_rfl))
 f32:=Tryz.func292.trans (congrArg some (by kernel_rfl))
 f36:=⟨Tryz.f290.name,by decide,Tryz.func290.trans (congrArg some (by kernel_rfl))⟩
 f37:=⟨Tryz.f293.name,by decide,Tryz.func293.trans (congrArg some (by kernel_rfl))⟩
 f38:=⟨Tryz.f294.name,by decide,Tryz.func294.trans (congrArg some (by kernel_rfl))⟩
 f39:=⟨Tryz.f295.name,by decide,Tryz.func295.trans (congrArg some (by kernel_rfl))⟩
 f41:=⟨Tryz.f306.name,by decide,Tryz.func306.trans (congrArg some (by kernel_rfl))⟩
 t0:=Tryz.underlying0
 a0:=Tryz.isAgg0
 z0:=Tryz.sizeOf0
 v0:=Tryz.zeroValue0
 t3:=Tryz.underlying3
 a3:=Tryz.isAgg3
 z3:=Tryz.sizeOf3
 v3:=Tryz.zeroValue3
 t4:=Tryz.underlying4
 a4:=Tryz.isAgg4
 z4:=Tryz.sizeOf4
 v4:=Tryz.zeroValue4
 t5:=Tryz.underlying5
 a5:=Tryz.isAgg5
 z5:=Tryz.sizeOf5
 v5:=Tryz.zeroValue5
 t9:=Tryz.underlying9
 a9:=Tryz.isAgg9
 z9:=Tryz.sizeOf9
 v9:=Tryz.zeroValue9
 t26:=Tryz.underlying41
 a26:=Tryz.isAgg41
 z26:=Tryz.sizeOf41
 v26:=Tryz.zeroValue41
 t27:=Tryz.underlying41
 a27:=Tryz.isAgg41
 z27:=Tryz.sizeOf41
 v27:=Tryz.zeroValue41
 t29:=Tryz.underlying9
 a29:=Tryz.isAgg9
 z29:=Tryz.sizeOf9
 v29:=Tryz.zeroValue9
 t32:=Tryz.underlying186
 a32:=Tryz.isAgg186
 z32:=Tryz.sizeOf186
 v32:=Tryz.zeroValue186
 t35:=Tryz.underlying322
 a35:=Tryz.isAgg322
 z35:=Tryz.sizeOf322
 v35:=Tryz.zeroValue322
 t36:=Tryz.underlying323
 a36:=Tryz.isAgg323
 z36:=Tryz.sizeOf323
 v36:=Tryz.zeroValue323
 t41:=Tryz.underlying57
 a41:=Tryz.isAgg57
 z41:=Tryz.sizeOf57
 v41:=Tryz.zeroValue57
 t44:=Tryz.underlying142
 a44:=Tryz.isAgg142
 z44:=Tryz.sizeOf142
 v44:=Tryz.zeroValue142
 t46:=Tryz.underlying56
 a46:=Tryz.isAgg56
 z46:=Tryz.sizeOf56
 v46:=Tryz.zeroValue56
 t53:=Tryz.underlying361
 a53:=Tryz.isAgg361
 z53:=Tryz.sizeOf361
 v53:=Tryz.zeroValue361
 t57:=Tryz.underlying364
 a57:=Tryz.isAgg364
 z57:=Tryz.sizeOf364
 v57:=Tryz.zeroValue364
 t63:=Tryz.underlying376
 a63:=Tryz.isAgg376
 z63:=Tryz.sizeOf376
 v63:=Tryz.zeroValue376
 t64:=Tryz.underlying210
 a64:=Tryz.isAgg210
 z64:=Tryz.sizeOf210
 v64:=Tryz.zeroValue210}
open Go.RowKit Go.Maps Go.Sort Go.Shelf
theorem Tryz.sorts131(m:Nat):AnyZ.SortsIn Tryz.prog Tryz.sorted131_ren Fence.wide m:=
 ⟨fun blk off cap ss W hH hblk hsz=>callsIn_wide.2 (AnyM.slices_Sort_string Tryz.sort179 blk off cap ss W hH hblk hsz),
  fun p cap W=>callsIn_wide.2 (AnyM.slices_Sort_string_none Tryz.sort179 p cap W)⟩
theorem Tryz.maps_Keys_132(mb:Option Nat)(W:World):CallsIn Fence.wide 5 Tryz.prog 132 #[.map mb] W fun e w'=>e= .returned (.func (.func 182) #[] #[.pointer (some ⟨W.heap.size,0,none⟩)])/\w'=W.alloc (.cells #[.map mb] 165):=
 AnyZ.keys_in Tryz.keys132 Fence.wide 5 trivial rfl mb W
set_option maxHeartbeats 1000000 in
theorem Tryz.slices_Sorted_keys_131_132{H:Type}(b nn:Nat)(D0:DataW H)(R:Value->Option (DataW H×List MemPlace))(w:World)(hown:w.ownsMap Tryz.prog 9 R b nn D0)(hmax:Maps.size D0<=maxLen)(hbytes:Maps.size D0*16<=140737488355328):
 CallsIn Fence.wide 5 Tryz.prog 131 #[.func (.func 182) #[] #[.pointer (some ⟨w.heap.size,0,none⟩)]] (w.alloc (.cells #[.map (some b)] 165)) fun e w'=>∃ (v:Value) (ss:List (List UInt8)),e= .returned v/\ss.Perm (strKeys D0)/\
  w'.ownsRow (w.alloc (.cells #[.map (some b)] 165)).heap.size 9 1 v ss.length ((ss.mergeSort (fun x y=>decide (x<=y))).map encStr)/\(v= .slice none 0 0↔ss= [])/\Below (w.alloc (.cells #[.map (some b)] 165)).heap.size (w.alloc (.cells #[.map (some b)] 165)) w':=by
 have hbl:=hown.lt
 have hseq:SeqGives Fence.wide 2 Tryz.prog 182 #[.pointer (some ⟨w.heap.size,0,none⟩)] encStr (fun ss=>ss.Perm (strKeys D0)) (Maps.size D0) (w.alloc (.cells #[.map (some b)] 165)):=
  AnyZ.keys_gives (ρ:=Tryz.keys132_ren) {Tryz.keys132 with} Fence.wide _ trivial rfl (by omega) w.heap.size b nn D0 _ (by simp) (by simp) (by
   obtain⟨es,clock,hb,Ft,hs,hD⟩:=hown
   exact⟨es,clock,(Below.heap_alloc _ _ b hbl).trans hb,Ft,hs,hD⟩)
 exact AnyZ.sorted_in Tryz.sorted131 Fence.wide 5 trivial trivial trivial trivial rfl (by omega) (Tryz.sorts131 _) (enters_of Tryz.func179 (by kernel_rfl) rfl) 182 #[.pointer (some ⟨w.heap.size,0,none⟩)] trivial (enters_of Tryz.func182 (by kernel_rfl) rfl) _ _ hmax hbytes _ hseq
end Go.Proofs
namespace Go.Proofs.YtmlaajebadfkoaaGreatDoor.Idx
open Go.RowKit Go.Maps Mem Own Canon Sift
def bwZ(v:Value):Option (DataW Value×List MemPlace):=some (.held v,[])
def ipZb:DataW Value:= .held (.slice none 0 0)
theorem fcZb(s:Str)(hs:s.length<=maxLen):keyOf Tryz.prog 9 (.string (bs s))=some (.string s):=by
 have h:(⟨s.toArray⟩:ByteArray).size<=maxLen:=by have:=ybZ s;unfold bs at this;omega
 simp[keyOf,mapKey,Tryz.underlying9,h,bs]
theorem liZb(s:Str)(hs:s.length<=maxLen):WideAt.IsKeyLit (.string s):=(string_keyed Tryz.underlying9).key (fcZb s hs)
structure MI (w:World) (mb m base:Nat) (D:DataW Value) (I:Str->List Nat) (V:Str->Value):Prop where
 map:w.ownsMap Tryz.prog 9 bwZ mb m D
 isMap:IsMap D
 has:∀s,Maps.has D (.string s)=decide (I s≠ [])
 at_:∀s,D.atKey (.string s) ipZb= .held (V s)
 row:∀s,w.ownsRow base 3 1 (V s) (I s).length (dZ .i64 (I s))
 apart:∀s s' g,s≠s'->(V s).ownBlock=some g->(V s').ownBlock≠some g
 long:∀s,I s≠ []->s.length<=25
theorem MI.start(w:World)(base:Nat):MI (w.alloc (.map #[] 0)) w.heap.size 0 base (.map []) (fun _=> []) (fun _=> .slice none 0 0):=
 ⟨World.ownsMap_made _ _ _ _,isMap_empty,fun s=>rfl,fun s=>rfl,fun s=>World.ownsRow_nil _ _ _ _,(fun s s' g _ h=>by cases h),fun s h=>absurd rfl h⟩
section
variable {w w':World} {mb m base:Nat} {D:DataW Value} {I:Str->List Nat} {V:Str->Value}
theorem MI.kept(h:MI w mb m base D I V)(hm:w'.heap[mb]? =w.heap[mb]?)(hr:∀s b,(V s).ownBlock=some b->w'.heap[b]? =w.heap[b]?):MI w' mb m base D I V:=
 ⟨(by obtain⟨es,clock,h1,h2,h3,h4⟩:=h.map;exact⟨es,clock,hm.trans h1,h2,h3,h4⟩),h.isMap,h.has,h.at_,fun s=>fZ (h.row s) (hr s),h.apart,h.long⟩
theorem MI.step(h:MI w mb m base D I V)(hb:Below w.heap.size w w'):MI w' mb m base D I V:=
 h.kept (hb.block _ h.map.lt) fun s b hs=>hb.block _ (World.ownsRow.lt (h.row s) b hs).2
theorem MI.look(h:MI w mb m base D I V)(s:Str)(hs:s.length<=maxLen):(Instr.lookup 165 (.map (some mb)) (.string (bs s)) false).run Tryz.prog w= .ok (V s) w:=by
 obtain⟨v,ps,h1,h2⟩:=h.map.lookup (string_keyed Tryz.underlying9) Tryz.underlying165 (z:= .slice none 0 0) (Tryz.zeroValue38 w) (zd:=ipZb) (zp:= []) rfl (fcZb s hs)
 rw[h.at_ s]at h2
 simp only[bwZ,Option.some.injEq,Prod.mk.injEq,DataW.held.injEq]at h2
 rw[h1,h2.1]
theorem hoZ{g:Nat}{base' n' s':Nat}{e:TypeId}{v:Value}{xs:List Value}(h:MI w mb m base D I V)(ho:w.ownsRow base' e s' v n' xs)(hg:v.ownBlock=some g):g≠mb:=by
 obtain⟨es,clock,h1,_⟩:=h.map
 rcases ho.2 with ⟨hv,_⟩|⟨g',cap,cur,hv,_,h2,_⟩
 ·rw[hv]at hg;cases hg
 ·rw[hv]at hg
  have hgg:g'=g:=by simpa[Value.ownBlock]using hg
  rw[<-hgg]
  intro e
  rw[e,h1]at h2
  cases h2
end
theorem MI.put{w w2 w4 w5:World}{mb m base i:Nat}{D:DataW Value}{I:Str->List Nat}{V:Str->Value}{t:Str}{v4:Value}(h:MI w mb m base D I V)(ht:t.length<=25)
 (hb2:Below w.heap.size w w2)(hg:w2.grownBy w4 (V t).ownBlock)(hown:w4.ownsRow base 3 1 v4 ((I t).length+1) (dZ .i64 (I t)++ [.int .i64 (i:Nat)]))
 (hat:v4.ownBlock=(V t).ownBlock∨∃x,v4.ownBlock=some x/\w2.heap.size<=x)
 (hm5:w5.ownsMap Tryz.prog 9 bwZ mb (m+1) (D.put (.string t) (.held v4)))(hg5:w4.grownBy w5 (some mb)):
 MI w5 mb (m+1) base (D.put (.string t) (.held v4)) (fun s=>if s=t then I s++ [i]else I s) (fun s=>if s=t then v4 else V s):=by
 have hk:=liZb t (by unfold maxLen;omega)
 have hblk:∀s b,s≠t->(V s).ownBlock=some b->w4.heap[b]? =w.heap[b]? /\b≠mb/\b<w2.heap.size:=fun s b hs hv=>by
  have hl:=(World.ownsRow.lt (h.row s) b hv).2
  have hl2:b<w2.heap.size:=Nat.lt_of_lt_of_le hl hb2.size
  exact⟨(hg.block b hl2 (fun e=>h.apart s t b hs hv e.symm)).trans (hb2.block b hl),hoZ h (h.row s) hv,hl2⟩
 refine⟨hm5,h.isMap.put _ _,fun s=> ?_,fun s=> ?_,fun s=> ?_,fun s s' g hne=> ?_,fun s=> ?_⟩
 ·by_cases hs:s=t
  ·subst hs
   rw[has_put_same h.isMap hk,if_pos rfl]
   simp
  ·rw[has_put_other (by intro e;injection e with e;exact hs e),h.has,if_neg hs]
 ·by_cases hs:s=t
  ·subst hs
   rw[if_pos rfl]
   exact atKey_put_same h.isMap hk _ _
  ·rw[atKey_put_other (by intro e;injection e with e;exact hs e),h.at_,if_neg hs]
 ·by_cases hs:s=t
  ·subst hs
   simp only[if_true]
   rw[List.length_append,show dZ .i64 (I s++ [i])=dZ .i64 (I s)++ [.int .i64 (i:Nat)] by simp[dZ]]
   refine fZ hown fun b hb=>hg5.block b (World.ownsRow.lt hown b hb).2 fun e=> ?_
   have hmb:w4.heap[mb]? =w.heap[mb]? :=by
    have hl:=h.map.lt
    refine(hg.block mb (Nat.lt_of_lt_of_le hl hb2.size) fun e=> ?_).trans (hb2.block mb hl)
    exact hoZ h (h.row s) e.symm rfl
   injection e with e
   subst e
   obtain⟨es,clock,h1,_⟩:=h.map
   rcases hown.2 with ⟨hv,_⟩|⟨g',cap,cur,hv,_,h2,_⟩
   ·rw[hv]at hb;cases hb
   ·rw[hv]at hb
    have hgg:g'=b:=by simpa[Value.ownBlock]using hb
    rw[hgg,hmb,h1]at h2
    cases h2
  ·simp only[if_neg hs]
   refine fZ (h.row s) fun b hb=> ?_
   obtain⟨h1,h2,h3⟩:=hblk s b hs hb
   exact(hg5.block b (Nat.lt_of_lt_of_le h3 hg.size) (fun e=>h2 (Option.some.inj e))).trans h1
 ·by_cases hs:s=t
  ·subst hs
   simp only[if_true,if_neg (fun e:s'=s=>hne e.symm)]
   intro hv hv'
   rcases hat with e|⟨x,hx,hxl⟩
   ·rw[e]at hv
    exact h.apart s s' g hne hv hv'
   ·rw[hx]at hv
    injection hv with hv
    have:=(World.ownsRow.lt (h.row s') g hv').2
    have:=hb2.size
    omega
  ·simp only[if_neg hs]
   by_cases hs':s'=t
   ·subst hs'
    simp only[if_true]
    intro hv hv'
    rcases hat with e|⟨x,hx,hxl⟩
    ·rw[e]at hv'
     exact h.apart s s' g hne hv hv'
    ·rw[hx]at hv'
     injection hv' with hv'
     have:=(World.ownsRow.lt (h.row s) g hv).2
     have:=hb2.size
     omega
   ·simp only[if_neg hs']
    exact h.apart s s' g hne
 ·by_cases hs:s=t
  ·subst hs;exact fun _=>ht
  ·simp only[if_neg hs];exact h.long s
theorem MI.keys{w:World}{mb m base:Nat}{D:DataW Value}{I:Str->List Nat}{V:Str->Value}(h:MI w mb m base D I V){ss ts:List Str}(hp:ss.Perm (strKeys D))(hr:ydZ ts)(hm:∀s,s∈ts↔I s≠ []):jjZ ss=ts:=by
 have hnd:ts.Nodup:=List.Pairwise.imp (fun{a b} (hab:a<b)=>(fun e:a=b=>beZ a (by rw[<-e]at hab;exact hab))) hr
 have hc:Collected D (fun _=>false) ts:=⟨hnd,fun s=>by rw[hm,h.has];simp⟩
 have hpt:=hc.perm h.map (string_keyed Tryz.underlying9) Tryz.underlying9 (fun _=>rfl)
 have hst:ss.Perm ts:=hp.trans hpt.symm
 have hnd2:(jjZ ss).Nodup:=(((List.mergeSort_perm ss _).trans hst).nodup_iff).2 hnd
 exact poZ (gjZb (qaZb ss) (List.Sublist.refl _) hnd2) hr fun s=>by rw[zxZ];exact hst.mem_iff
end Go.Proofs.YtmlaajebadfkoaaGreatDoor.Idx
