/- The contracts of map -/
import Derived.Test.YtfgdoknipbpfhaaGreatDoorZTwoBack25
import Derived.Shelf.SlIter.Nil
import Derived.Shelf.SortM.Plain
import Derived.Shelf.SortM.SortNone
import Derived.Ground.GgzProg
import Derived.Ground.SlgmProg
import Derived.Maps.OwnSet
import Derived.Sort.KeysCollected
namespace Go.Proofs.YtfgdoknipbpfhaaGreatDoor end Go.Proofs.YtfgdoknipbpfhaaGreatDoor open Go.Proofs.YtfgdoknipbpfhaaGreatDoor
namespace Go.Proofs
open Go.Shelf
def Tryz.keys108_ren:Go.Shelf.Ren:=⟨fun|7=>108|10=>184|n=>n,fun|23=>153|26=>9|3=>37|28=>156|0=>0|27=>155|33=>238|4=>4|n=>n,fun|n=>n⟩
theorem Tryz.keys108:Go.Proofs.SlLaysZ.n7 Tryz.prog Tryz.keys108_ren:={
 mixed:=my
 f7:=⟨Tryz.f108.name,ip,Tryz.func108.trans (Aw some my)⟩
 f10:=⟨Tryz.f184.name,ip,Tryz.func184.trans (Aw some my)⟩
 t0:=Tryz.underlying0
 a0:=Tryz.isAgg0
 z0:=Tryz.sizeOf0
 v0:=Tryz.zeroValue0
 t4:=Tryz.underlying4
 a4:=Tryz.isAgg4
 z4:=Tryz.sizeOf4
 v4:=Tryz.zeroValue4
 t23:=Tryz.underlying153
 a23:=Tryz.isAgg153
 z23:=Tryz.sizeOf153
 v23:=Tryz.zeroValue153
 t26:=Tryz.underlying9
 a26:=Tryz.isAgg9
 z26:=Tryz.sizeOf9
 v26:=Tryz.zeroValue9
 t27:=Tryz.underlying155
 a27:=Tryz.isAgg155
 z27:=Tryz.sizeOf155
 v27:=Tryz.zeroValue155
 t28:=Tryz.underlying156
 a28:=Tryz.isAgg156
 z28:=Tryz.sizeOf156
 v28:=Tryz.zeroValue156
 t33:=Tryz.underlying238
 a33:=Tryz.isAgg238
 z33:=Tryz.sizeOf238
 v33:=Tryz.zeroValue238}
def Tryz.sorted107_ren:Go.Shelf.Ren:=⟨fun|6=>107|8=>183|9=>181|11=>238|13=>233|12=>237|23=>281|24=>282|14=>283|15=>284|16=>285|17=>286|18=>287|19=>288|20=>289|21=>290|22=>291|25=>320|26=>321|27=>322|28=>323|29=>324|30=>325|31=>351|n=>n,fun|26=>9|28=>156|24=>50|0=>0|3=>3|37=>220|48=>149|50=>41|4=>4|40=>374|39=>373|45=>35|5=>5|9=>9|51=>405|55=>408|57=>448|58=>183|33=>238|n=>n,fun|n=>n⟩
theorem Tryz.sorted107:Go.Proofs.SlLaysZ.n6 Tryz.prog Tryz.sorted107_ren:={
 mixed:=my
 f6:=⟨Tryz.f107.name,ip,Tryz.func107.trans (Aw some my)⟩
 f8:=⟨Tryz.f183.name,ip,Tryz.func183.trans (Aw some my)⟩
 f11:=⟨Tryz.f238.name,ip,Tryz.func238.trans (Aw some my)⟩
 t0:=Tryz.underlying0
 a0:=Tryz.isAgg0
 z0:=Tryz.sizeOf0
 v0:=Tryz.zeroValue0
 t24:=Tryz.underlying50
 a24:=Tryz.isAgg50
 z24:=Tryz.sizeOf50
 v24:=Tryz.zeroValue50
 t26:=Tryz.underlying9
 a26:=Tryz.isAgg9
 z26:=Tryz.sizeOf9
 v26:=Tryz.zeroValue9
 t28:=Tryz.underlying156
 a28:=Tryz.isAgg156
 z28:=Tryz.sizeOf156
 v28:=Tryz.zeroValue156
 i26:=my}
def Tryz.sort181_ren:Go.Shelf.Ren:=⟨fun|6=>181|8=>233|9=>237|19=>281|20=>282|21=>283|22=>284|23=>285|24=>286|25=>287|26=>288|27=>289|28=>290|29=>291|36=>320|31=>321|32=>322|37=>323|38=>324|39=>325|41=>351|n=>n,fun|27=>50|29=>9|3=>3|32=>220|26=>50|0=>0|44=>149|46=>41|4=>4|36=>374|35=>373|41=>35|5=>5|9=>9|53=>405|57=>408|63=>448|64=>183|n=>n,fun|n=>n⟩
theorem Tryz.sort181:Go.Proofs.SlLaysM.n6 Tryz.prog Tryz.sort181_ren:={
 mixed:=my
 f6:=⟨Tryz.f181.name,ip,Tryz.func181.trans (Aw some my)⟩
 f8:=Tryz.func233.trans (Aw some my)
 f9:=⟨Tryz.f237.name,ip,Tryz.func237.trans (Aw some my)⟩
 f19:=Tryz.func281.trans (Aw some my)
 f20:=Tryz.func282.trans (Aw some my)
 f21:=⟨Tryz.f283.name,ip,Tryz.func283.trans (Aw some my)⟩
 f22:=⟨Tryz.f284.name,ip,Tryz.func284.trans (Aw some my)⟩
 f23:=⟨Tryz.f285.name,ip,Tryz.func285.trans (Aw some my)⟩
 f24:=⟨Tryz.f286.name,ip,Tryz.func286.trans (Aw some my)⟩
 f25:=⟨Tryz.f287.name,ip,Tryz.func287.trans (Aw some my)⟩
 f26:=⟨Tryz.f288.name,ip,Tryz.func288.trans (Aw some my)⟩
 f27:=⟨Tryz.f289.name,ip,Tryz.func289.trans (Aw some my)⟩
 f28:=⟨Tryz.f290.name,ip,Tryz.func290.trans (Aw some my)⟩
 f29:=⟨Tryz.f291.name,ip,Tryz.func291.trans (Aw some my)⟩
 f31:=Tryz.func321.trans (Aw some my)
 f32:=Tryz.func322.trans (Aw some my)
 f36:=⟨Tryz.f320.name,ip,Tryz.func320.trans (Aw some my)⟩
 f37:=⟨Tryz.f323.name,ip,Tryz.func323.trans (Aw some my)⟩
 f38:=⟨Tryz.f324.name,ip,Tryz.func324.trans (Aw some my)⟩
 f39:=⟨Tryz.f325.name,ip,Tryz.func325.trans (Aw some my)⟩
 f41:=⟨Tryz.f351.name,ip,Tryz.func351.trans (Aw some my)⟩
 t0:=Tryz.underlying0
 a0:=Tryz.isAgg0
 z0:=Tryz.sizeOf0
 v0:=Tryz.zeroValue0
 t3:=Tryz.underlying3
 a3:=Tryz.isAgg3
 z3:=Tryz.sizeOf3
 v3:=Tryz.zeroValue3
 t4:=Tryz.underlying4
 a4:=Tryz.isAgg4
 z4:=Tryz.sizeOf4
 v4:=Tryz.zeroValue4
 t5:=Tryz.underlying5
 a5:=Tryz.isAgg5
 z5:=Tryz.sizeOf5
 v5:=Tryz.zeroValue5
 t9:=Tryz.underlying9
 a9:=Tryz.isAgg9
 z9:=Tryz.sizeOf9
 v9:=Tryz.zeroValue9
 t26:=Tryz.underlying50
 a26:=Tryz.isAgg50
 z26:=Tryz.sizeOf50
 v26:=Tryz.zeroValue50
 t27:=Tryz.underlying50
 a27:=Tryz.isAgg50
 z27:=Tryz.sizeOf50
 v27:=Tryz.zeroValue50
 t29:=Tryz.underlying9
 a29:=Tryz.isAgg9
 z29:=Tryz.sizeOf9
 v29:=Tryz.zeroValue9
 t32:=Tryz.underlying220
 a32:=Tryz.isAgg220
 z32:=Tryz.sizeOf220
 v32:=Tryz.zeroValue220
 t35:=Tryz.underlying373
 a35:=Tryz.isAgg373
 z35:=Tryz.sizeOf373
 v35:=Tryz.zeroValue373
 t36:=Tryz.underlying374
 a36:=Tryz.isAgg374
 z36:=Tryz.sizeOf374
 v36:=Tryz.zeroValue374
 t41:=Tryz.underlying35
 a41:=Tryz.isAgg35
 z41:=Tryz.sizeOf35
 v41:=Tryz.zeroValue35
 t44:=Tryz.underlying149
 a44:=Tryz.isAgg149
 z44:=Tryz.sizeOf149
 v44:=Tryz.zeroValue149
 t46:=Tryz.underlying41
 a46:=Tryz.isAgg41
 z46:=Tryz.sizeOf41
 v46:=Tryz.zeroValue41
 t53:=Tryz.underlying405
 a53:=Tryz.isAgg405
 z53:=Tryz.sizeOf405
 v53:=Tryz.zeroValue405
 t57:=Tryz.underlying408
 a57:=Tryz.isAgg408
 z57:=Tryz.sizeOf408
 v57:=Tryz.zeroValue408
 t63:=Tryz.underlying448
 a63:=Tryz.isAgg448
 z63:=Tryz.sizeOf448
 v63:=Tryz.zeroValue448
 t64:=Tryz.underlying183
 a64:=Tryz.isAgg183
 z64:=Tryz.sizeOf183
 v64:=Tryz.zeroValue183}
open Go.RowKit Go.Maps Go.Sort
theorem Tryz.sorts107(m:Nat):AnyZ.SortsIn Tryz.prog Tryz.sorted107_ren Fence.wide m:=
 ⟨fun blk off cap ss W hH hblk hsz=>callsIn_wide.2 (AnyM.slices_Sort_string Tryz.sort181 blk off cap ss W hH hblk hsz),
  fun p cap W=>callsIn_wide.2 (AnyM.slices_Sort_string_none Tryz.sort181 p cap W)⟩
theorem Tryz.maps_Keys_108(mb:Option Nat)(W:World):CallsIn Fence.wide 5 Tryz.prog 108 #[.map mb] W fun e w'=>e= .returned (.func (.func 184) #[] #[.pointer (some ⟨W,0,none⟩)])/\w'=W.alloc (.cells #[.map mb] 153):=
 AnyZ.keys_in Tryz.keys108 Fence.wide 5 trivial rfl mb W
set_option maxHeartbeats 1000000 in
theorem Tryz.slices_Sorted_keys_107_108{H:Type}(b nn:Nat)(D0:DataW H)(R:Value->Option (DataW H×List MemPlace))(w:World)(i:w.ownsMap Tryz.prog 9 R b nn D0)(z:Maps.size D0<=maxLen)(h:Maps.size D0*16<=140737488355328):
 CallsIn Fence.wide 5 Tryz.prog 107 #[.func (.func 184) #[] #[.pointer (some ⟨w,0,none⟩)]] (w.alloc (.cells #[.map (some b)] 153)) fun e w'=>∃ (v:Value) (ss:List (List UInt8)),e= .returned v/\ss.Perm (strKeys D0)/\
  w'.ownsRow (w.alloc (.cells #[.map (some b)] 153)).heap.size 9 1 v ss.length ((ss.mergeSort (fun x y=>decide (x<=y))).map encStr)/\(v= .slice none 0 0↔ss= [])/\Below (w.alloc (.cells #[.map (some b)] 153)).heap.size (w.alloc (.cells #[.map (some b)] 153)) w':=by
 have G:=i.lt
 have E:SeqGives Fence.wide 2 Tryz.prog 184 #[.pointer (some ⟨w,0,none⟩)] encStr (fun ss=>ss.Perm (strKeys D0)) (Maps.size D0) (w.alloc (.cells #[.map (some b)] 153)):=
  AnyZ.keys_gives (ρ:=Tryz.keys108_ren) {Tryz.keys108 with} Fence.wide _ trivial rfl nj w b nn D0 _ rX rX (by obtain⟨es,j,hb,Ft,hs,hD⟩:=i;exact⟨es,j,(EA _ _ b G).trans hb,Ft,hs,hD⟩)
 exact AnyZ.sorted_in Tryz.sorted107 Fence.wide 5 trivial trivial trivial trivial rfl nj (Tryz.sorts107 _) (enters_of Tryz.func181 my rfl) 184 #[.pointer (some ⟨w,0,none⟩)] trivial (enters_of Tryz.func184 my rfl) _ _ z h _ E
end Go.Proofs
namespace Go.Proofs.YtfgdoknipbpfhaaGreatDoor
open Go.RowKit Go.Maps
def Lb(v:Value):Option (DataW Value×List MemPlace):=some (.held v,[])
def WJ:DataW Value:= .held (.slice none 0 0)
theorem OA(s:Str)(hs:s.length<=maxLen):keyOf Tryz.prog 9 (.string (bs s))=some (.string s):=by
 have h:(⟨s.toArray⟩:ByteArray).size<=maxLen:=by have:=Fb s;unfold bs at this;omega
 simp[keyOf,mapKey,Tryz.underlying9,h,bs]
theorem gN(s:Str)(hs:s.length<=maxLen):WideAt.IsKeyLit (.string s):=(string_keyed Tryz.underlying9).key (OA s hs)
structure MI (w:World) (mb m base:Nat) (D:DataW Value) (I:Str->List Nat) (V:Str->Value):Prop where
 map:w.ownsMap Tryz.prog 9 Lb mb m D
 isMap:IsMap D
 has:∀s,Maps.has D (.string s)=decide (I s≠ [])
 at_:∀s,D.atKey (.string s) WJ= .held (V s)
 row:∀s,w.ownsRow base 3 1 (V s) (I s).length (dZ .i64 (I s))
 apart:∀s s' g,s≠s'->(V s).ownBlock=some g->(V s').ownBlock≠some g
 long:∀s,I s≠ []->s.length<=25
theorem MI.start(w:World)(base:Nat):MI (w.alloc (.map #[] 0)) w 0 base (.map []) (fun _=> []) (fun _=> .slice none 0 0):=
 ⟨World.ownsMap_made _ _ _ _,isMap_empty,fun s=>rfl,fun s=>rfl,fun s=>AI _ _ _ _,(fun s s' g _ h=>by cases h),fun s h=>absurd rfl h⟩
section
variable {w w':World} {mb m base:Nat} {D:DataW Value} {I:Str->List Nat} {V:Str->Value}
theorem MI.kept(h:MI w mb m base D I V)(hm:w'.heap[mb]? =w.heap[mb]?)(hr:∀s b,(V s).ownBlock=some b->w'.heap[b]? =w.heap[b]?):MI w' mb m base D I V:=
 ⟨(by obtain⟨es,i,h1,h2,h3,h4⟩:=h.map;exact⟨es,i,hm.trans h1,h2,h3,h4⟩),h.isMap,h.has,h.at_,fun s=>eZ (h.row s) (hr s),h.apart,h.long⟩
theorem MI.step(h:MI w mb m base D I V)(hb:Below w w w'):MI w' mb m base D I V:=
 h.kept (hb.block _ h.map.lt) fun s b hs=>hb.block _ (Aj (h.row s) b hs).2
theorem MI.look(h:MI w mb m base D I V)(s:Str)(hs:s.length<=maxLen):(Instr.lookup 153 (.map (some mb)) (.string (bs s)) false).run Tryz.prog w= .ok (V s) w:=by obtain⟨v,ps,h1,h2⟩:=h.map.lookup (string_keyed Tryz.underlying9) Tryz.underlying153 (z:= .slice none 0 0) (Tryz.zeroValue37 w) (zd:=WJ) (zp:= []) rfl (OA s hs);rw[h.at_ s]at h2;simp only[Lb,Option.some.injEq,Prod.mk.injEq,DataW.held.injEq]at h2;rw[h1,h2.1]
theorem Ke{g:Nat}{i n' s':Nat}{e:TypeId}{v:Value}{xs:List Value}(h:MI w mb m base D I V)(ho:w.ownsRow i e s' v n' xs)(hg:v.ownBlock=some g):g≠mb:=by
 obtain⟨es,j,h1,_⟩:=h.map;rcases ho.2 with ⟨hv,_⟩|⟨g',z,cur,hv,_,h2,_⟩
 ·rw[hv]at hg;cases hg
 ·rw[hv]at hg;have y:g'=g:=by simpa[Value.ownBlock]using hg
  rw[<-y];intro e;rw[e,h1]at h2;cases h2
end
theorem MI.put{w w2 w4 w5:World}{mb m base i:Nat}{D:DataW Value}{I:Str->List Nat}{V:Str->Value}{t:Str}{v4:Value}(h:MI w mb m base D I V)(ht:t.length<=25)
 (y:Below w w w2)(hg:w2.grownBy w4 (V t).ownBlock)(z:w4.ownsRow base 3 1 v4 ((I t).length+1) (dZ .i64 (I t)++ [.int .i64 (i:Nat)]))
 (J:v4.ownBlock=(V t).ownBlock∨∃x,v4.ownBlock=some x/\w2.heap.size<=x)
 (Z:w5.ownsMap Tryz.prog 9 Lb mb (m+1) (D.put (.string t) (.held v4)))(E:w4.grownBy w5 (some mb)):
 MI w5 mb (m+1) base (D.put (.string t) (.held v4)) (fun s=>if s=t then I s++ [i]else I s) (fun s=>if s=t then v4 else V s):=by
 have hk:=gN t sS;have L:∀s b,s≠t->(V s).ownBlock=some b->w4.heap[b]? =w.heap[b]? /\b≠mb/\b<w2.heap.size:=fun s b hs hv=>by have hl:=(Aj (h.row s) b hv).2;have M:b<w2.heap.size:=Ek hl y.size;exact⟨(hg.block b M (fun e=>h.apart s t b hs hv e.symm)).trans (y.block b hl),Ke h (h.row s) hv,M⟩
 refine⟨Z,h.isMap.put _ _,fun s=> ?_,fun s=> ?_,fun s=> ?_,fun s s' g hne=> ?_,fun s=> ?_⟩
 ·by_cases hs:s=t
  ·subst hs;rw[has_put_same h.isMap hk,Ab rfl];simp
  ·rw[has_put_other (by intro e;injection e with e;exact hs e),h.has,Aa hs]
 ·by_cases hs:s=t
  ·subst hs;rw[Ab rfl];exact atKey_put_same h.isMap hk _ _
  ·rw[atKey_put_other (by intro e;injection e with e;exact hs e),h.at_,Aa hs]
 ·by_cases hs:s=t
  ·subst hs;simp only[if_true];rw[Ag,show dZ .i64 (I s++ [i])=dZ .i64 (I s)++ [.int .i64 (i:Nat)] by simp[dZ]];refine eZ z fun b hb=>E.block b (Aj z b hb).2 fun e=> ?_;have Y:w4.heap[mb]? =w.heap[mb]? :=(by have hl:=h.map.lt;refine(hg.block mb (Ek hl y.size) fun e=> ?_).trans (y.block mb hl);exact Ke h (h.row s) e.symm rfl);injection e with e;subst e;obtain⟨es,N,h1,_⟩:=h.map;rcases z.2 with ⟨hv,_⟩|⟨g',aa,cur,hv,_,h2,_⟩
   ·rw[hv]at hb;cases hb
   ·rw[hv]at hb;have Q:g'=b:=(by simpa[Value.ownBlock]using hb);rw[Q,Y,h1]at h2;cases h2
  ·simp only[if_neg hs];refine eZ (h.row s) fun b hb=> ?_;obtain⟨h1,h2,h3⟩:=L s b hs hb;exact(E.block b (Ek h3 hg.size) (fun e=>h2 (Option.some.inj e))).trans h1
 ·by_cases hs:s=t
  ·subst hs;simp only[if_true,if_neg (fun e:s'=s=>hne e.symm)];intro hv j;rcases J with e|⟨x,hx,U⟩
   ·rw[e]at hv;exact h.apart s s' g hne hv j
   ·rw[hx]at hv;injection hv with hv;have:=(Aj (h.row s') g j).2;have:=y.size;omega
  ·simp only[if_neg hs];by_cases G:s'=t
   ·subst G;simp only[if_true];intro hv j;rcases J with e|⟨x,hx,U⟩
    ·rw[e]at j;exact h.apart s s' g hne hv j
    ·rw[hx]at j;injection j with j;have:=(Aj (h.row s) g hv).2;have:=y.size;omega
   ·simp only[if_neg G];exact h.apart s s' g hne
 ·by_cases hs:s=t
  ·subst hs;exact fun _=>ht
  ·simp only[if_neg hs];exact h.long s
theorem MI.keys{w:World}{mb m base:Nat}{D:DataW Value}{I:Str->List Nat}{V:Str->Value}(h:MI w mb m base D I V){ss ts:List Str}(hp:ss.Perm (strKeys D))(hr:Fx ts)(hm:∀s,s∈ts↔I s≠ []):Ht ss=ts:=by have y:ts.Nodup:=List.Pairwise.imp (fun{a b} (hab:a<b)=>(fun e:a=b=>I2 a (by rw[<-e]at hab;exact hab))) hr;have hc:Collected D (fun _=>false) ts:=⟨y,fun s=>by rw[hm,h.has];simp⟩;have z:=hc.perm h.map (string_keyed Tryz.underlying9) Tryz.underlying9 (fun _=>rfl);have j:ss.Perm ts:=hp.trans z.symm;have i:(Ht ss).Nodup:=(((List.mergeSort_perm ss _).trans j).nodup_iff).2 y;exact Pq (mE (T4 ss) (List.Sublist.refl _) i) hr fun s=>by rw[UX];exact j.mem_iff
end Go.Proofs.YtfgdoknipbpfhaaGreatDoor
