/- The contracts of map -/
import Derived.Test.YtbgoibedicbkjaaGreatDoorZBodyLogs15
import Derived.Shelf.SlIter.Nil
import Derived.Shelf.SortM.Plain
import Derived.Shelf.SortM.SortNone
import Derived.Ground.GgzProg
import Derived.Ground.SlgmProg
import Derived.Maps.OwnSet
import Derived.Sort.KeysCollected
namespace Go.Proofs.YtbgoibedicbkjaaGreatDoor end Go.Proofs.YtbgoibedicbkjaaGreatDoor open Go.Proofs.YtbgoibedicbkjaaGreatDoor
namespace Go.Proofs
open Go.Shelf
def Tryz.keys106_ren:Go.Shelf.Ren:=⟨fun|7=>106|10=>162|n=>n,fun|23=>150|26=>9|3=>30|28=>154|0=>0|27=>153|33=>213|4=>4|n=>n,fun|n=>n⟩
theorem Tryz.keys106:Go.Proofs.SlLaysZ.n7 Tryz.prog Tryz.keys106_ren:={
 mixed:=by kernel_rfl
 f7:=⟨Tryz.f106.name,by decide,Tryz.func106.trans (AJ some (by kernel_rfl))⟩
 f10:=⟨Tryz.f162.name,by decide,Tryz.func162.trans (AJ some (by kernel_rfl))⟩
 t0:=Tryz.underlying0
 a0:=Tryz.isAgg0
 z0:=Tryz.sizeOf0
 v0:=Tryz.zeroValue0
 t4:=Tryz.underlying4
 a4:=Tryz.isAgg4
 z4:=Tryz.sizeOf4
 v4:=Tryz.zeroValue4
 t23:=Tryz.underlying150
 a23:=Tryz.isAgg150
 z23:=Tryz.sizeOf150
 v23:=Tryz.zeroValue150
 t26:=Tryz.underlying9
 a26:=Tryz.isAgg9
 z26:=Tryz.sizeOf9
 v26:=Tryz.zeroValue9
 t27:=Tryz.underlying153
 a27:=Tryz.isAgg153
 z27:=Tryz.sizeOf153
 v27:=Tryz.zeroValue153
 t28:=Tryz.underlying154
 a28:=Tryz.isAgg154
 z28:=Tryz.sizeOf154
 v28:=Tryz.zeroValue154
 t33:=Tryz.underlying213
 a33:=Tryz.isAgg213
 z33:=Tryz.sizeOf213
 v33:=Tryz.zeroValue213}
def Tryz.sorted105_ren:Go.Shelf.Ren:=⟨fun|6=>105|8=>161|9=>159|11=>203|13=>198|12=>202|23=>228|24=>229|14=>230|15=>231|16=>232|17=>233|18=>234|19=>235|20=>236|21=>237|22=>238|25=>258|26=>259|27=>260|28=>261|29=>262|30=>263|31=>276|n=>n,fun|26=>9|28=>154|24=>33|0=>0|3=>3|37=>191|48=>145|50=>57|4=>4|40=>319|39=>318|45=>53|5=>5|9=>9|51=>336|55=>339|57=>362|58=>233|33=>213|n=>n,fun|n=>n⟩
theorem Tryz.sorted105:Go.Proofs.SlLaysZ.n6 Tryz.prog Tryz.sorted105_ren:={
 mixed:=by kernel_rfl
 f6:=⟨Tryz.f105.name,by decide,Tryz.func105.trans (AJ some (by kernel_rfl))⟩
 f8:=⟨Tryz.f161.name,by decide,Tryz.func161.trans (AJ some (by kernel_rfl))⟩
 f11:=⟨Tryz.f203.name,by decide,Tryz.func203.trans (AJ some (by kernel_rfl))⟩
 t0:=Tryz.underlying0
 a0:=Tryz.isAgg0
 z0:=Tryz.sizeOf0
 v0:=Tryz.zeroValue0
 t24:=Tryz.underlying33
 a24:=Tryz.isAgg33
 z24:=Tryz.sizeOf33
 v24:=Tryz.zeroValue33
 t26:=Tryz.underlying9
 a26:=Tryz.isAgg9
 z26:=Tryz.sizeOf9
 v26:=Tryz.zeroValue9
 t28:=Tryz.underlying154
 a28:=Tryz.isAgg154
 z28:=Tryz.sizeOf154
 v28:=Tryz.zeroValue154
 i26:=by kernel_rfl}
def Tryz.sort159_ren:Go.Shelf.Ren:=⟨fun|6=>159|8=>198|9=>202|19=>228|20=>229|21=>230|22=>231|23=>232|24=>233|25=>234|26=>235|27=>236|28=>237|29=>238|36=>258|31=>259|32=>260|37=>261|38=>262|39=>263|41=>276|n=>n,fun|27=>33|29=>9|3=>3|32=>191|26=>33|0=>0|44=>145|46=>57|4=>4|36=>319|35=>318|41=>53|5=>5|9=>9|53=>336|57=>339|63=>362|64=>233|n=>n,fun|n=>n⟩
theorem Tryz.sort159:Go.Proofs.SlLaysM.n6 Tryz.prog Tryz.sort159_ren:={
 mixed:=by kernel_rfl
 f6:=⟨Tryz.f159.name,by decide,Tryz.func159.trans (AJ some (by kernel_rfl))⟩
 f8:=Tryz.func198.trans (AJ some (by kernel_rfl))
 f9:=⟨Tryz.f202.name,by decide,Tryz.func202.trans (AJ some (by kernel_rfl))⟩
 f19:=Tryz.func228.trans (AJ some (by kernel_rfl))
 f20:=Tryz.func229.trans (AJ some (by kernel_rfl))
 f21:=⟨Tryz.f230.name,by decide,Tryz.func230.trans (AJ some (by kernel_rfl))⟩
 f22:=⟨Tryz.f231.name,by decide,Tryz.func231.trans (AJ some (by kernel_rfl))⟩
 f23:=⟨Tryz.f232.name,by decide,Tryz.func232.trans (AJ some (by kernel_rfl))⟩
 f24:=⟨Tryz.f233.name,by decide,Tryz.func233.trans (AJ some (by kernel_rfl))⟩
 f25:=⟨Tryz.f234.name,by decide,Tryz.func234.trans (AJ some (by kernel_rfl))⟩
 f26:=⟨Tryz.f235.name,by decide,Tryz.func235.trans (AJ some (by kernel_rfl))⟩
 f27:=⟨Tryz.f236.name,by decide,Tryz.func236.trans (AJ some (by kernel_rfl))⟩
 f28:=⟨Tryz.f237.name,by decide,Tryz.func237.trans (AJ some (by kernel_rfl))⟩
 f29:=⟨Tryz.f238.name,by decide,Tryz.func238.trans (AJ some (by kernel_rfl))⟩
 f31:=Tryz.func259.trans (AJ some (by kernel_rfl))
 f32:=Tryz.func260.trans (AJ some (by kernel_rfl))
 f36:=⟨Tryz.f258.name,by decide,Tryz.func258.trans (AJ some (by kernel_rfl))⟩
 f37:=⟨Tryz.f261.name,by decide,Tryz.func261.trans (AJ some (by kernel_rfl))⟩
 f38:=⟨Tryz.f262.name,by decide,Tryz.func262.trans (AJ some (by kernel_rfl))⟩
 f39:=⟨Tryz.f263.name,by decide,Tryz.func263.trans (AJ some (by kernel_rfl))⟩
 f41:=⟨Tryz.f276.name,by decide,Tryz.func276.trans (AJ some (by kernel_rfl))⟩
 t0:=Tryz.underlying0
 a0:=Tryz.isAgg0
 z0:=Tryz.sizeOf0
 v0:=Tryz.zeroValue0
 t3:=Tryz.underlying3
 a3:=Tryz.isAgg3
 z3:=Tryz.sizeOf3
 v3:=Tryz.zeroValue3
 t4:=Tryz.underlying4
 a4:=Tryz.isAgg4
 z4:=Tryz.sizeOf4
 v4:=Tryz.zeroValue4
 t5:=Tryz.underlying5
 a5:=Tryz.isAgg5
 z5:=Tryz.sizeOf5
 v5:=Tryz.zeroValue5
 t9:=Tryz.underlying9
 a9:=Tryz.isAgg9
 z9:=Tryz.sizeOf9
 v9:=Tryz.zeroValue9
 t26:=Tryz.underlying33
 a26:=Tryz.isAgg33
 z26:=Tryz.sizeOf33
 v26:=Tryz.zeroValue33
 t27:=Tryz.underlying33
 a27:=Tryz.isAgg33
 z27:=Tryz.sizeOf33
 v27:=Tryz.zeroValue33
 t29:=Tryz.underlying9
 a29:=Tryz.isAgg9
 z29:=Tryz.sizeOf9
 v29:=Tryz.zeroValue9
 t32:=Tryz.underlying191
 a32:=Tryz.isAgg191
 z32:=Tryz.sizeOf191
 v32:=Tryz.zeroValue191
 t35:=Tryz.underlying318
 a35:=Tryz.isAgg318
 z35:=Tryz.sizeOf318
 v35:=Tryz.zeroValue318
 t36:=Tryz.underlying319
 a36:=Tryz.isAgg319
 z36:=Tryz.sizeOf319
 v36:=Tryz.zeroValue319
 t41:=Tryz.underlying53
 a41:=Tryz.isAgg53
 z41:=Tryz.sizeOf53
 v41:=Tryz.zeroValue53
 t44:=Tryz.underlying145
 a44:=Tryz.isAgg145
 z44:=Tryz.sizeOf145
 v44:=Tryz.zeroValue145
 t46:=Tryz.underlying57
 a46:=Tryz.isAgg57
 z46:=Tryz.sizeOf57
 v46:=Tryz.zeroValue57
 t53:=Tryz.underlying336
 a53:=Tryz.isAgg336
 z53:=Tryz.sizeOf336
 v53:=Tryz.zeroValue336
 t57:=Tryz.underlying339
 a57:=Tryz.isAgg339
 z57:=Tryz.sizeOf339
 v57:=Tryz.zeroValue339
 t63:=Tryz.underlying362
 a63:=Tryz.isAgg362
 z63:=Tryz.sizeOf362
 v63:=Tryz.zeroValue362
 t64:=Tryz.underlying233
 a64:=Tryz.isAgg233
 z64:=Tryz.sizeOf233
 v64:=Tryz.zeroValue233}
open Go.RowKit Go.Maps Go.Sort Go.Shelf
theorem Tryz.sorts105(m:Nat):AnyZ.SortsIn Tryz.prog Tryz.sorted105_ren Fence.wide m:=
 ⟨fun blk off cap ss W hH hblk hsz=>callsIn_wide.2 (AnyM.slices_Sort_string Tryz.sort159 blk off cap ss W hH hblk hsz),
  fun p cap W=>callsIn_wide.2 (AnyM.slices_Sort_string_none Tryz.sort159 p cap W)⟩
theorem Tryz.maps_Keys_106(mb:Option Nat)(W:World):CallsIn Fence.wide 5 Tryz.prog 106 #[.map mb] W fun e w'=>e= .returned (.func (.func 162) #[] #[.pointer (some ⟨W.heap.size,0,none⟩)])/\w'=W.alloc (.cells #[.map mb] 150):=
 AnyZ.keys_in Tryz.keys106 Fence.wide 5 trivial rfl mb W
set_option maxHeartbeats 1000000 in
theorem Tryz.slices_Sorted_keys_105_106{H:Type}(b nn:Nat)(D0:DataW H)(R:Value->Option (DataW H×List MemPlace))(w:World)(i:w.ownsMap Tryz.prog 9 R b nn D0)(E:Maps.size D0<=maxLen)(h:Maps.size D0*16<=140737488355328):
 CallsIn Fence.wide 5 Tryz.prog 105 #[.func (.func 162) #[] #[.pointer (some ⟨w.heap.size,0,none⟩)]] (w.alloc (.cells #[.map (some b)] 150)) fun e w'=>∃ (v:Value) (ss:List (List UInt8)),e= .returned v/\ss.Perm (strKeys D0)/\
  w'.ownsRow (w.alloc (.cells #[.map (some b)] 150)).heap.size 9 1 v ss.length ((ss.mergeSort (fun x y=>decide (x<=y))).map encStr)/\(v= .slice none 0 0↔ss= [])/\Below (w.alloc (.cells #[.map (some b)] 150)).heap.size (w.alloc (.cells #[.map (some b)] 150)) w':=by
 have G:=i.lt
 have z:SeqGives Fence.wide 2 Tryz.prog 162 #[.pointer (some ⟨w.heap.size,0,none⟩)] encStr (fun ss=>ss.Perm (strKeys D0)) (Maps.size D0) (w.alloc (.cells #[.map (some b)] 150)):=
  AnyZ.keys_gives (ρ:=Tryz.keys106_ren) {Tryz.keys106 with} Fence.wide _ trivial rfl (by omega) w.heap.size b nn D0 _ (by simp) (by simp) (by obtain⟨es,j,hb,Ft,hs,hD⟩:=i;exact⟨es,j,(BI _ _ b G).trans hb,Ft,hs,hD⟩)
 exact AnyZ.sorted_in Tryz.sorted105 Fence.wide 5 trivial trivial trivial trivial rfl (by omega) (Tryz.sorts105 _) (enters_of Tryz.func159 (by kernel_rfl) rfl) 162 #[.pointer (some ⟨w.heap.size,0,none⟩)] trivial (enters_of Tryz.func162 (by kernel_rfl) rfl) _ _ E h _ z
end Go.Proofs
namespace Go.Proofs.YtbgoibedicbkjaaGreatDoor.Idx
open Go.RowKit Go.Maps Mem Own Canon Sift
def JU(v:Value):Option (DataW Value×List MemPlace):=some (.held v,[])
def Sn:DataW Value:= .held (.slice none 0 0)
theorem MZ(s:Str)(hs:s.length<=maxLen):keyOf Tryz.prog 9 (.string (bs s))=some (.string s):=by
 have h:(⟨s.toArray⟩:ByteArray).size<=maxLen:=by have:=Cy s;unfold bs at this;omega
 simp[keyOf,mapKey,Tryz.underlying9,h,bs]
theorem Vh(s:Str)(hs:s.length<=maxLen):WideAt.IsKeyLit (.string s):=(string_keyed Tryz.underlying9).key (MZ s hs)
structure MI (w:World) (mb m base:Nat) (D:DataW Value) (I:Str->List Nat) (V:Str->Value):Prop where
 map:w.ownsMap Tryz.prog 9 JU mb m D
 isMap:IsMap D
 has:∀s,Maps.has D (.string s)=decide (I s≠ [])
 at_:∀s,D.atKey (.string s) Sn= .held (V s)
 row:∀s,w.ownsRow base 3 1 (V s) (I s).length (cZ .i64 (I s))
 apart:∀s s' g,s≠s'->(V s).ownBlock=some g->(V s').ownBlock≠some g
 long:∀s,I s≠ []->s.length<=25
theorem MI.start(w:World)(base:Nat):MI (w.alloc (.map #[] 0)) w.heap.size 0 base (.map []) (fun _=> []) (fun _=> .slice none 0 0):=
 ⟨World.ownsMap_made _ _ _ _,isMap_empty,fun s=>rfl,fun s=>rfl,fun s=>Am _ _ _ _,(fun s s' g _ h=>by cases h),fun s h=>absurd rfl h⟩
section
variable {w w':World} {mb m base:Nat} {D:DataW Value} {I:Str->List Nat} {V:Str->Value}
theorem MI.kept(h:MI w mb m base D I V)(hm:w'.heap[mb]? =w.heap[mb]?)(hr:∀s b,(V s).ownBlock=some b->w'.heap[b]? =w.heap[b]?):MI w' mb m base D I V:=
 ⟨(by obtain⟨es,i,h1,h2,h3,h4⟩:=h.map;exact⟨es,i,hm.trans h1,h2,h3,h4⟩),h.isMap,h.has,h.at_,fun s=>dZ (h.row s) (hr s),h.apart,h.long⟩
theorem MI.step(h:MI w mb m base D I V)(hb:Below w.heap.size w w'):MI w' mb m base D I V:=
 h.kept (hb.block _ h.map.lt) fun s b hs=>hb.block _ (Ae (h.row s) b hs).2
theorem MI.look(h:MI w mb m base D I V)(s:Str)(hs:s.length<=maxLen):(Instr.lookup 150 (.map (some mb)) (.string (bs s)) false).run Tryz.prog w= .ok (V s) w:=by obtain⟨v,ps,h1,h2⟩:=h.map.lookup (string_keyed Tryz.underlying9) Tryz.underlying150 (z:= .slice none 0 0) (Tryz.zeroValue30 w) (zd:=Sn) (zp:= []) rfl (MZ s hs);rw[h.at_ s]at h2;simp only[JU,Option.some.injEq,Prod.mk.injEq,DataW.held.injEq]at h2;rw[h1,h2.1]
theorem IM{g:Nat}{i n' s':Nat}{e:TypeId}{v:Value}{xs:List Value}(h:MI w mb m base D I V)(ho:w.ownsRow i e s' v n' xs)(hg:v.ownBlock=some g):g≠mb:=by
 obtain⟨es,j,h1,_⟩:=h.map;rcases ho.2 with ⟨hv,_⟩|⟨g',z,cur,hv,_,h2,_⟩
 ·rw[hv]at hg;cases hg
 ·rw[hv]at hg;have y:g'=g:=by simpa[Value.ownBlock]using hg
  rw[<-y];intro e;rw[e,h1]at h2;cases h2
end
theorem MI.put{w w2 w4 w5:World}{mb m base i:Nat}{D:DataW Value}{I:Str->List Nat}{V:Str->Value}{t:Str}{v4:Value}(h:MI w mb m base D I V)(ht:t.length<=25)
 (y:Below w.heap.size w w2)(hg:w2.grownBy w4 (V t).ownBlock)(z:w4.ownsRow base 3 1 v4 ((I t).length+1) (cZ .i64 (I t)++ [.int .i64 (i:Nat)]))
 (L:v4.ownBlock=(V t).ownBlock∨∃x,v4.ownBlock=some x/\w2.heap.size<=x)
 (N:w5.ownsMap Tryz.prog 9 JU mb (m+1) (D.put (.string t) (.held v4)))(J:w4.grownBy w5 (some mb)):
 MI w5 mb (m+1) base (D.put (.string t) (.held v4)) (fun s=>if s=t then I s++ [i]else I s) (fun s=>if s=t then v4 else V s):=by
 have hk:=Vh t (by unfold maxLen;omega);have E:∀s b,s≠t->(V s).ownBlock=some b->w4.heap[b]? =w.heap[b]? /\b≠mb/\b<w2.heap.size:=fun s b hs hv=>by have hl:=(Ae (h.row s) b hv).2;have M:b<w2.heap.size:=De hl y.size;exact⟨(hg.block b M (fun e=>h.apart s t b hs hv e.symm)).trans (y.block b hl),IM h (h.row s) hv,M⟩
 refine⟨N,h.isMap.put _ _,fun s=> ?_,fun s=> ?_,fun s=> ?_,fun s s' g hne=> ?_,fun s=> ?_⟩
 ·by_cases hs:s=t
  ·subst hs;rw[has_put_same h.isMap hk,Ab rfl];simp
  ·rw[has_put_other (by intro e;injection e with e;exact hs e),h.has,Aa hs]
 ·by_cases hs:s=t
  ·subst hs;rw[Ab rfl];exact atKey_put_same h.isMap hk _ _
  ·rw[atKey_put_other (by intro e;injection e with e;exact hs e),h.at_,Aa hs]
 ·by_cases hs:s=t
  ·subst hs;simp only[if_true];rw[Ai,show cZ .i64 (I s++ [i])=cZ .i64 (I s)++ [.int .i64 (i:Nat)] by simp[cZ]];refine dZ z fun b hb=>J.block b (Ae z b hb).2 fun e=> ?_;have Z:w4.heap[mb]? =w.heap[mb]? :=(by have hl:=h.map.lt;refine(hg.block mb (De hl y.size) fun e=> ?_).trans (y.block mb hl);exact IM h (h.row s) e.symm rfl);injection e with e;subst e;obtain⟨es,Q,h1,_⟩:=h.map;rcases z.2 with ⟨hv,_⟩|⟨g',aa,cur,hv,_,h2,_⟩
   ·rw[hv]at hb;cases hb
   ·rw[hv]at hb;have Y:g'=b:=(by simpa[Value.ownBlock]using hb);rw[Y,Z,h1]at h2;cases h2
  ·simp only[if_neg hs];refine dZ (h.row s) fun b hb=> ?_;obtain⟨h1,h2,h3⟩:=E s b hs hb;exact(J.block b (De h3 hg.size) (fun e=>h2 (Option.some.inj e))).trans h1
 ·by_cases hs:s=t
  ·subst hs;simp only[if_true,if_neg (fun e:s'=s=>hne e.symm)];intro hv j;rcases L with e|⟨x,hx,U⟩
   ·rw[e]at hv;exact h.apart s s' g hne hv j
   ·rw[hx]at hv;injection hv with hv;have:=(Ae (h.row s') g j).2;have:=y.size;omega
  ·simp only[if_neg hs];by_cases G:s'=t
   ·subst G;simp only[if_true];intro hv j;rcases L with e|⟨x,hx,U⟩
    ·rw[e]at j;exact h.apart s s' g hne hv j
    ·rw[hx]at j;injection j with j;have:=(Ae (h.row s) g hv).2;have:=y.size;omega
   ·simp only[if_neg G];exact h.apart s s' g hne
 ·by_cases hs:s=t
  ·subst hs;exact fun _=>ht
  ·simp only[if_neg hs];exact h.long s
theorem MI.keys{w:World}{mb m base:Nat}{D:DataW Value}{I:Str->List Nat}{V:Str->Value}(h:MI w mb m base D I V){ss ts:List Str}(hp:ss.Perm (strKeys D))(hr:DJ ts)(hm:∀s,s∈ts↔I s≠ []):FL ss=ts:=by have i:ts.Nodup:=List.Pairwise.imp (fun{a b} (hab:a<b)=>(fun e:a=b=>Gg a (by rw[<-e]at hab;exact hab))) hr;have hc:Collected D (fun _=>false) ts:=⟨i,fun s=>by rw[hm,h.has];simp⟩;have z:=hc.perm h.map (string_keyed Tryz.underlying9) Tryz.underlying9 (fun _=>rfl);have j:ss.Perm ts:=hp.trans z.symm;have y:(FL ss).Nodup:=(((List.mergeSort_perm ss _).trans j).nodup_iff).2 i;exact Nk (YD (Pz ss) (List.Sublist.refl _) y) hr fun s=>by rw[NM];exact j.mem_iff
end Go.Proofs.YtbgoibedicbkjaaGreatDoor.Idx
