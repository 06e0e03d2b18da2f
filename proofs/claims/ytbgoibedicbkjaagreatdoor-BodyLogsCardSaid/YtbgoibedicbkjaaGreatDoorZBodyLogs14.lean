/- The contracts of fun -/
import Derived.Test.YtbgoibedicbkjaaGreatDoorZBodyLogs13
import Derived.Shelf.Small.Bits
import Derived.Shelf.Strconv.Itoa0
import Derived.Shelf.Sort.Plain
import Derived.Shelf.Slices.CompactS
import Derived.Shelf.Slices.Cells
import Derived.Shelf.Slices.In.SortNone
import Derived.Sort.OwnSorted
import Derived.Sort.Grow
import Derived.Lib.OwnBridge
import Derived.Lib.SlicesCompact
namespace Go.Proofs.YtbgoibedicbkjaaGreatDoor end Go.Proofs.YtbgoibedicbkjaaGreatDoor open Go.Proofs.YtbgoibedicbkjaaGreatDoor
open Go.Lib (hid)
namespace Go.Proofs
open Go.Shelf
def Tryz.lays125_ren:Go.Shelf.Ren:=⟨fun|125=>198|128=>228|129=>229|n=>n,fun|46=>191|3=>3|51=>145|53=>57|4=>4|5=>5|9=>9|n=>n,fun|n=>n⟩
theorem Tryz.lays125:Go.Proofs.Lays.n125 Tryz.prog Tryz.lays125_ren:={
 mixed:=by kernel_rfl
 f125:=Tryz.func198.trans (AJ some (by kernel_rfl))
 f128:=Tryz.func228.trans (AJ some (by kernel_rfl))
 f129:=Tryz.func229.trans (AJ some (by kernel_rfl))
 t3:=Tryz.underlying3
 a3:=Tryz.isAgg3
 z3:=Tryz.sizeOf3
 v3:=Tryz.zeroValue3
 t4:=Tryz.underlying4
 a4:=Tryz.isAgg4
 z4:=Tryz.sizeOf4
 v4:=Tryz.zeroValue4
 t5:=Tryz.underlying5
 a5:=Tryz.isAgg5
 z5:=Tryz.sizeOf5
 v5:=Tryz.zeroValue5
 t9:=Tryz.underlying9
 a9:=Tryz.isAgg9
 z9:=Tryz.sizeOf9
 v9:=Tryz.zeroValue9
 t46:=Tryz.underlying191
 a46:=Tryz.isAgg191
 z46:=Tryz.sizeOf191
 v46:=Tryz.zeroValue191
 t51:=Tryz.underlying145
 a51:=Tryz.isAgg145
 z51:=Tryz.sizeOf145
 v51:=Tryz.zeroValue145
 t53:=Tryz.underlying57
 a53:=Tryz.isAgg57
 z53:=Tryz.sizeOf57
 v53:=Tryz.zeroValue57}
theorem Tryz.bits_Len(x:Int)(w:World)(h0:0<=x)(h1:x<=18446744073709551615):
 Calls Tryz.prog 198 #[.int .u64 x] w fun e w'=>e= .returned (.int .i64 (Lib.bitLen x.toNat))/\w'=w:=Any.bits_Len Tryz.lays125 x w h0 h1
def Tryz.lays190_ren:Go.Shelf.Ren:=⟨fun|190=>159|125=>198|258=>202|128=>228|129=>229|302=>230|303=>231|304=>232|305=>233|306=>234|307=>235|308=>236|309=>237|310=>238|333=>258|329=>259|330=>260|334=>261|335=>262|336=>263|344=>276|n=>n,fun|31=>33|9=>9|3=>3|46=>191|0=>0|51=>145|53=>57|4=>4|183=>319|182=>318|131=>53|5=>5|218=>336|222=>339|228=>362|229=>233|n=>n,fun|n=>n⟩
theorem Tryz.lays190:Go.Proofs.Lays.n190 Tryz.prog Tryz.lays190_ren:={
 mixed:=by kernel_rfl
 f125:=Tryz.func198.trans (AJ some (by kernel_rfl))
 f128:=Tryz.func228.trans (AJ some (by kernel_rfl))
 f129:=Tryz.func229.trans (AJ some (by kernel_rfl))
 f190:=Tryz.func159.trans (AJ some (by kernel_rfl))
 f258:=Tryz.func202.trans (AJ some (by kernel_rfl))
 f302:=Tryz.func230.trans (AJ some (by kernel_rfl))
 f303:=Tryz.func231.trans (AJ some (by kernel_rfl))
 f304:=Tryz.func232.trans (AJ some (by kernel_rfl))
 f305:=Tryz.func233.trans (AJ some (by kernel_rfl))
 f306:=Tryz.func234.trans (AJ some (by kernel_rfl))
 f307:=Tryz.func235.trans (AJ some (by kernel_rfl))
 f308:=Tryz.func236.trans (AJ some (by kernel_rfl))
 f309:=Tryz.func237.trans (AJ some (by kernel_rfl))
 f310:=Tryz.func238.trans (AJ some (by kernel_rfl))
 f329:=Tryz.func259.trans (AJ some (by kernel_rfl))
 f330:=Tryz.func260.trans (AJ some (by kernel_rfl))
 f333:=Tryz.func258.trans (AJ some (by kernel_rfl))
 f334:=Tryz.func261.trans (AJ some (by kernel_rfl))
 f335:=Tryz.func262.trans (AJ some (by kernel_rfl))
 f336:=Tryz.func263.trans (AJ some (by kernel_rfl))
 f344:=Tryz.func276.trans (AJ some (by kernel_rfl))
 t0:=Tryz.underlying0
 a0:=Tryz.isAgg0
 z0:=Tryz.sizeOf0
 v0:=Tryz.zeroValue0
 t3:=Tryz.underlying3
 a3:=Tryz.isAgg3
 z3:=Tryz.sizeOf3
 v3:=Tryz.zeroValue3
 t4:=Tryz.underlying4
 a4:=Tryz.isAgg4
 z4:=Tryz.sizeOf4
 v4:=Tryz.zeroValue4
 t5:=Tryz.underlying5
 a5:=Tryz.isAgg5
 z5:=Tryz.sizeOf5
 v5:=Tryz.zeroValue5
 t9:=Tryz.underlying9
 a9:=Tryz.isAgg9
 z9:=Tryz.sizeOf9
 v9:=Tryz.zeroValue9
 t31:=Tryz.underlying33
 a31:=Tryz.isAgg33
 z31:=Tryz.sizeOf33
 v31:=Tryz.zeroValue33
 t46:=Tryz.underlying191
 a46:=Tryz.isAgg191
 z46:=Tryz.sizeOf191
 v46:=Tryz.zeroValue191
 t51:=Tryz.underlying145
 a51:=Tryz.isAgg145
 z51:=Tryz.sizeOf145
 v51:=Tryz.zeroValue145
 t53:=Tryz.underlying57
 a53:=Tryz.isAgg57
 z53:=Tryz.sizeOf57
 v53:=Tryz.zeroValue57
 t131:=Tryz.underlying53
 a131:=Tryz.isAgg53
 z131:=Tryz.sizeOf53
 v131:=Tryz.zeroValue53
 t182:=Tryz.underlying318
 a182:=Tryz.isAgg318
 z182:=Tryz.sizeOf318
 v182:=Tryz.zeroValue318
 t183:=Tryz.underlying319
 a183:=Tryz.isAgg319
 z183:=Tryz.sizeOf319
 v183:=Tryz.zeroValue319
 t218:=Tryz.underlying336
 a218:=Tryz.isAgg336
 z218:=Tryz.sizeOf336
 v218:=Tryz.zeroValue336
 t222:=Tryz.underlying339
 a222:=Tryz.isAgg339
 z222:=Tryz.sizeOf339
 v222:=Tryz.zeroValue339
 t228:=Tryz.underlying362
 a228:=Tryz.isAgg362
 z228:=Tryz.sizeOf362
 v228:=Tryz.zeroValue362
 t229:=Tryz.underlying233
 a229:=Tryz.isAgg233
 z229:=Tryz.sizeOf233
 v229:=Tryz.zeroValue233}
open Go.Sort Go.RowKit in
theorem Tryz.slices_Sort_string(blk h j:Nat)(ss:List (List UInt8))(w:World)(hH:Holds encStr w blk h ss.toArray)(i:blk<w.heap.size)(z:ss.length<4611686018427387904):
 Calls Tryz.prog 159 #[.slice (some ⟨blk,h,none⟩) ss.length j] w fun e w'=>e= .returned (.tuple #[])/\∃n os,w'=grow (putRow encStr (Sort.ahead w n) blk h (ss.mergeSort fun x y=>decide (x<=y)).toArray) os:=Any.slices_Sort_string Tryz.lays190 blk h j ss w hH i z
def Tryz.lays194_ren:Go.Shelf.Ren:=⟨fun|194=>160|n=>n,fun|31=>33|9=>9|3=>3|4=>4|0=>0|n=>n,fun|n=>n⟩
theorem Tryz.lays194:Go.Proofs.Lays.n194 Tryz.prog Tryz.lays194_ren:={
 mixed:=by kernel_rfl
 f194:=Tryz.func160.trans (AJ some (by kernel_rfl))
 t0:=Tryz.underlying0
 a0:=Tryz.isAgg0
 z0:=Tryz.sizeOf0
 v0:=Tryz.zeroValue0
 t3:=Tryz.underlying3
 a3:=Tryz.isAgg3
 z3:=Tryz.sizeOf3
 v3:=Tryz.zeroValue3
 t4:=Tryz.underlying4
 a4:=Tryz.isAgg4
 z4:=Tryz.sizeOf4
 v4:=Tryz.zeroValue4
 t9:=Tryz.underlying9
 a9:=Tryz.isAgg9
 z9:=Tryz.sizeOf9
 v9:=Tryz.zeroValue9
 t31:=Tryz.underlying33
 a31:=Tryz.isAgg33
 z31:=Tryz.sizeOf33
 v31:=Tryz.zeroValue33}
open Go.RowKit Go.Lib Go.Sort in
theorem Tryz.slices_Compact_string(blk h i:Nat)(zs:List (List UInt8))(w:World)(hH:Holds encStr w blk h zs.toArray)(y:zs.length<=9223372036854775807)(j:zs.length<=i):
 Calls Tryz.prog 160 #[.slice (some ⟨blk,h,none⟩) zs.length i] w fun e w'=>e= .returned (.slice (some ⟨blk,h,none⟩) (Lib.compact zs).length i)/\∃q,w'=putRow encStr (Sort.ahead w q) blk h (Lib.compact zs++List.replicate (zs.length-(Lib.compact zs).length) []).toArray:=Any.slices_Compact_string Tryz.lays194 blk h i zs w hH y j
open Go.RowKit Go.Lib Go.Sort in
theorem Tryz.slices_Compact_string_empty(a:Option Addr)(h:Nat)(w:World):
 Calls Tryz.prog 160 #[.slice a 0 h] w fun e w'=>e= .returned (.slice a 0 h)/\w'=w:=Any.slices_Compact_string_empty Tryz.lays194 a h w
open Go.RowKit Go.Sort in
theorem Tryz.slices_Sort_string_none(p:Option Addr)(h:Nat)(w:World):
 Calls Tryz.prog 159 #[.slice p 0 h] w fun e w'=>e= .returned (.tuple #[])/\w'=w:=Any.slices_Sort_string_none Tryz.lays190 p h w
end Go.Proofs
namespace Go.Proofs.YtbgoibedicbkjaaGreatDoor.Idx
open Go.RowKit Mem Own Canon Sift Go.Sort
theorem Yb{zs:List Str}{u:Str}:u∈Lib.compact zs↔u∈zs:=by
 unfold Lib.compact Lib.compactUpTo;rw[Ep];constructor
 ·rintro⟨i,hi,rfl⟩;have hi:=(List.mem_filter.1 hi).1;rw[Eo]at hi;rw[getElem!_pos zs.toArray i (by simpa using hi)];simp
 ·intro hu;obtain⟨j,hj,rfl⟩:=List.getElem_of_mem hu;clear hu
  induction j with
  |zero=>exact⟨0,List.mem_filter.2 ⟨Eo.2 hj,by simp[Lib.keeps]⟩,by rw[getElem!_pos zs.toArray 0 (by simpa using hj)];simp⟩
  |succ j ih=>
   have e1:zs.toArray[j+1]! =zs[j+1]:=(by rw[getElem!_pos zs.toArray (j+1) (by simpa using hj)];simp);have e0:zs.toArray[j]! =zs[j]:=(by rw[getElem!_pos zs.toArray j (by simp;omega)];simp);by_cases h:zs[j+1]=zs[j]
   ·obtain⟨i,h1,h2⟩:=ih (by omega);exact⟨i,h1,h2.trans h.symm⟩
   ·refine⟨j+1,List.mem_filter.2 ⟨Eo.2 hj,?_⟩,e1⟩;unfold Lib.keeps;rw[decide_eq_true_eq]
    right
    rw[Nat.add_sub_cancel,e1,e0];exact h
theorem UM{zs:List Str}(h:zs.Pairwise (·<= ·)):DJ (Lib.compact zs):=by
 have hp:=List.pairwise_iff_getElem.1 h;unfold DJ Lib.compact Lib.compactUpTo;rw[List.pairwise_map];refine List.Pairwise.imp_of_mem (R:=(·< ·)) ?_ (List.Pairwise.filter _ List.pairwise_lt_range);intro i j hi hj M;obtain⟨E,y⟩:=List.mem_filter.1 hj;rw[Eo]at E;have e0:zs.toArray[i]! =zs[i]:=by rw[getElem!_pos zs.toArray i (by simp;omega)];simp
 have e1:zs.toArray[j]! =zs[j]:=by rw[getElem!_pos zs.toArray j (by simpa using E)];simp
 have e2:zs.toArray[j-1]! =zs[j-1]:=by rw[getElem!_pos zs.toArray (j-1) (by simp;omega)];simp
 unfold Lib.keeps at y;rw[decide_eq_true_eq,e1,e2]at y;have L:zs[j]≠zs[j-1]:=y.resolve_left (by omega);have G:=hp (j-1) j (by omega) E (by omega);have z:zs[j-1]<zs[j]:=(Jg zs[j-1] zs[j]).elim id fun k=>k.elim (fun k=>absurd k.symm L) (fun k=>absurd k G);rw[e0,e1];by_cases J:i=j-1
 ·subst J;exact z
 ·have h2:=hp i (j-1) (by omega) (by omega) (by omega);rcases Jg zs[i] zs[j-1]with k|k|k
  ·exact KJ k z
  ·rw[k];exact z
  ·exact absurd k h2
def FL(l:List Str):List Str:=l.mergeSort fun x y=>decide (x<=y)
theorem Pz(l:List Str):(FL l).Pairwise (·<= ·):=by
 have h:=List.pairwise_mergeSort (le:=fun(x y:Str)=>decide (x<=y)) (fun a b c h1 h2=>by
  simp only[decide_eq_true_eq]at h1 h2 ⊢;exact List.le_trans h1 h2) (fun a b=>by
  simp only[Bool.or_eq_true,decide_eq_true_eq];exact List.le_total a b) l
 exact h.imp fun h=>of_decide_eq_true h
theorem NM{l:List Str}{u:Str}:u∈FL l↔u∈l:=List.mem_mergeSort
theorem XW(l:List Str):Lib.compact (FL l)=yZ [] l:=
 Nk (UM (Pz l)) (KK l List.Pairwise.nil) fun s=>by rw[Yb,NM,Ku];simp
theorem Vt(l:List Str):l.map encStr=tZ l:=rfl
theorem Vd{w:World}{base n c:Nat}{A:Option Addr}{ss:List Str}(h:w.ownsRow base 9 1 (.slice A n c) n (tZ ss))(hn:n<=1000000):
 Calls Tryz.prog 159 #[.slice A n c] w fun e w'=>e= .returned (.tuple #[])/\w'.ownsRow base 9 1 (.slice A n c) n (tZ (FL ss))/\w.grownBy w' (Value.slice A n c).ownBlock:=by
 rcases h.2 with ⟨hv,h0⟩|⟨g,M,cur,hv,j,hb,h1,h2,h3,h4⟩
 ·injection hv with e1 e2 e3;subst e1 e2 e3;have hs:ss= []:=by have:=h.1;simpa[tZ]using this
  subst hs;refine(Tryz.slices_Sort_string_none none 0 w).mono ?_;rintro e w' ⟨rfl,rfl⟩;refine⟨rfl,?_,World.grownBy.refl _ _⟩;rw[show FL []= [] by simp[FL]];exact Am _ _ _ _
 ·injection hv with e1 e2 e3;subst e1 e3;obtain⟨g',G,hA,J,z,y,L,i,hH⟩:=Lib.holds_of_ownsRow (enc:=encStr) (zs:=ss) h (by simp);injection hA with hA1 hA2 hA3;injection hA1 with hA1;injection hA1 with hA1;subst hA1 hA3;have hD:=Tryz.slices_Sort_string g 0 c ss w hH z (by omega);rw[i]at hD;refine hD.mono ?_;rintro e w' ⟨rfl,nn,os,rfl⟩;have E:(FL ss).length=ss.length:=List.length_mergeSort ss;subst i;exact⟨rfl,ownsRow_sorted (n:=nn) (os:=os) (ts:=FL ss) E j hb h1 h2 h3,grownBy_sorted _⟩
theorem XH{w:World}{base n c:Nat}{A:Option Addr}{ss:List Str}(h:w.ownsRow base 9 1 (.slice A n c) n (tZ ss))(hn:n<=1000000):
 Calls Tryz.prog 160 #[.slice A n c] w fun e w'=>e= .returned (.slice A (Lib.compact ss).length c)/\w'.ownsRow base 9 1 (.slice A (Lib.compact ss).length c) (Lib.compact ss).length (tZ (Lib.compact ss))/\∀a,Below base a w->Below base a w':=by
 rcases h.2 with ⟨hv,h0⟩|⟨g,L,cur,hv,i,hb,h1,h2,h3,h4⟩
 ·injection hv with e1 e2 e3;subst e1 e2 e3;have hs:ss= []:=by have:=h.1;simpa[tZ]using this
  subst hs;refine(Tryz.slices_Compact_string_empty none 0 w).mono ?_;rintro e w' ⟨rfl,rfl⟩;exact⟨rfl,Am _ _ _ _,fun a h=>h⟩
 ·injection hv with e1 e2 e3;subst e1 e3;obtain⟨g',z,hA,E,M,y,J,j,hH⟩:=Lib.holds_of_ownsRow (enc:=encStr) (zs:=ss) h (by simp);injection hA with hA1 hA2 hA3;injection hA1 with hA1;injection hA1 with hA1;subst hA1 hA3;have hD:=Tryz.slices_Compact_string g 0 c ss w hH (by omega) (by omega);rw[j]at hD;refine hD.mono ?_;rintro e w' ⟨rfl,q,rfl⟩;have G:=Lib.compact_length_le ss;have hc:=Lib.ownsRow_putRow (enc:=encStr) (q:=q) (k:=(Lib.compact ss).length) (ys:=Lib.compact ss++List.replicate (n-(Lib.compact ss).length) []) h (by simp;omega) (by omega);rw[List.take_left]at hc;exact⟨rfl,hc,fun a h=>Lib.below_putRow h i⟩
def Hd(ts:List Str)(w:World)(e:Ending)(w':World):Prop:=
 ∃v,e= .returned v/\w'.ownsRow w.heap.size 9 1 v ts.length (tZ ts)/\Below w.heap.size w w'
theorem LN:∀ (l row:List UInt8),(split row l).length<=row.length+l.length
 | [],row=>by rw[split];have:=Lu row;simpa using this
 |c :: t,row=>by
  rw[split];split
  ·have:=LN t (row++ [Dk c]);simp at this ⊢;omega
  ·have h1:=LN t [];have h2:=Lu row;rw[Ai,Bh];simp at h1;omega
theorem Ji(l:List UInt8):(words l).length<=l.length:=by have:=LN l [];simpa[words]using this
set_option maxHeartbeats 1000000 in
set_option maxRecDepth 100000 in
theorem Ts(w:World)(tm lv:Int)(so tx:ByteArray)(hs:so.size<=50000)(ht:tx.size<=50000):
 Calls Tryz.prog 104 #[.agg #[.int .u64 tm, .int .u8 lv, .string so, .string tx]] w (Hd (FB tx.data.toList so.data.toList) w):=by
 have D1:Hid (∀ (B:Nat) (a wx:World) (bo:Nat),Below B a wx->B<=a.heap.size->Blk wx bo 33 #[.slice none 0 0]->B<=bo->Calls Tryz.prog 156 #[.string tx,Fy bo] wx (Ij idS [] tx B a bo)):=fun B a wx bo hb ha ho hl=>YV B a wx bo tx [] (.slice none 0 0) (by omega) (by simp) ht hb ha ho (Am _ _ _ _) hl;have D2:Hid (∀ (B:Nat) (a wx:World) (bo:Nat) (ws0:List Str) (v0:Value),ws0.length<=50000->Below B a wx->B<=a.heap.size->Blk wx bo 33 #[v0]->wx.ownsRow B 9 1 v0 ws0.length (tZ ws0)->B<=bo->Calls Tryz.prog 156 #[.string so,Fw bo] wx (Ij atS ws0 so B a bo)):=fun B a wx bo ws0 v0 h0 hb ha ho hw hl=>Yr B a wx bo so ws0 v0 (by omega) h0 hs hb ha ho hw hl;have hT:GL tx.data.toList so.data.toList=(words tx.data.toList).map idS++(words so.data.toList).map atS:=by unfold GL;rw[show(words tx.data.toList).map idS=words tx.data.toList from List.map_id' _];rfl
 have ar:((words tx.data.toList).map idS).length<=50000:=by have:=Ji tx.data.toList;have h2:=Lib.size_eq tx;rw[BN];omega
 have az:((words so.data.toList).map atS).length<=50000:=by have:=Ji so.data.toList;have h2:=Lib.size_eq so;rw[BN];omega
 have al:FB tx.data.toList so.data.toList=Lib.compact (FL ((words tx.data.toList).map idS++(words so.data.toList).map atS)):=by rw[XW,<-hT];rfl
 unfold Hd;rw[al];unfold Ij at D1 D2;clear hT al hs ht;generalize (words tx.data.toList).map idS=W1 at *;generalize (words so.data.toList).map atS=W2 at *;unfold Fy at D1;unfold Fw at D2;obtain⟨WS,N⟩:∃WS,WS=W1++W2:=⟨_,rfl⟩;rw[<-N];have av:=hid N;clear N;go_enter Tryz.func104,Tryz.ntmps104;go_wp2_with fail;have ac:Below w.heap.size w (w.alloc (.cells #[.int .u64 tm, .int .u8 lv, .string so, .string tx] 59)):=bZ (Ag _ _);have ak:Blk (w.alloc (.cells #[.int .u64 tm, .int .u8 lv, .string so, .string tx] 59)) w.heap.size 59 #[.int .u64 tm, .int .u8 lv, .string so, .string tx]:=Blk.made _ _ _;have ah:(w.alloc (.cells #[.int .u64 tm, .int .u8 lv, .string so, .string tx] 59)).heap.size=w.heap.size+1:=by simp
 generalize w.alloc (.cells #[.int .u64 tm, .int .u8 lv, .string so, .string tx] 59)=wa at *;have j:Below wa.heap.size wa (wa.alloc (.cells #[.slice none 0 0] 33)):=bZ (Ag _ _);have aj:Blk (wa.alloc (.cells #[.slice none 0 0] 33)) wa.heap.size 33 #[.slice none 0 0]:=Blk.made _ _ _;rw[<-ah];have E1:=hid (D1.out wa.heap.size wa _ wa.heap.size j (Aj _) aj (Aj _));have ax:=hid ac;have aa:=hid ak;clear D1 j aj ac ak ah;obtain⟨B,hB⟩:∃B,B=wa.heap.size:=⟨_,rfl⟩;have ae:B<=wa.heap.size:=by omega
 rw[<-hB]at E1 ⊢;have Y:Hid (w.heap.size<B):=by show _<_;rw[hB];exact aa.out.lt
 have ay:=hid hB;clear hB;refine E1.out.mono ?_;rintro e w1 ⟨rfl,j,v1,z,Q⟩;have an:Hid (w1.ownsRow B 9 1 v1 W1.length (tZ W1)):=Q;have ab:=hid z;have ag:=hid j;have E2:=hid (D2.out B wa w1 B W1 v1 ar j ae z Q (Aj _));have c2:w1.cell? ⟨w.heap.size,2,none⟩=some (.string so):=(ag.out.cell (p:=⟨w.heap.size,2,none⟩) Y.out).trans (aa.out.cell 2);clear E1 D2 j z Q;go_wp2_with fail;refine E2.out.mono ?_;rintro e w2 ⟨rfl,Z,v2,h,E⟩;obtain⟨A2,c3,rfl⟩:=aZ E;have k0:=h.cell 0;simp only[List.getElem?_toArray,List.getElem?_cons_zero]at k0;have J:(W1++W2).length<=1000000:=by rw[Ai];omega
 rw[<-av.out]at J k0 h E;have E3:=hid (Vd E J);have i:=hid h;have U:=hid Z;have G:=hid E;obtain⟨n,hn⟩:∃n,n=WS.length:=⟨_,rfl⟩;rw[<-hn]at k0 E3 G J i;have HN:=hid hn;clear E2 c2 Z h E an ab ag hn;go_wp2_with fail;refine E3.out.mono ?_;rintro e w3 ⟨rfl,am,M⟩;have L:=i.out.grown M (fun e=>fZ G.out i.out (by decide) e.symm);have k3:=L.cell 0;simp only[List.getElem?_toArray,List.getElem?_cons_zero]at k3;have aw:Hid (Below B wa w3):=U.out.grown M (AV ae U.out.size) (fun y hy=>(Ae G.out y hy).1);have E4:=hid (XH am J);clear E3 am M L k0 U G i;go_wp2_with fail;refine E4.out.mono ?_;rintro e w4 ⟨rfl,af,ai⟩;have au:Hid (Below w.heap.size w w4):=ax.out.trans ((ai wa aw.out).mono (Nat.le_of_lt Y.out));have aq:=hid (jZ af (Nat.le_of_lt Y.out));clear E4 af ai;go_wp2_with fail;go_ret;exact⟨_,rfl,aq.out,au.out⟩
end Go.Proofs.YtbgoibedicbkjaaGreatDoor.Idx
namespace Go.Proofs.YtbgoibedicbkjaaGreatDoor.Toks
open Go.RowKit Mem
theorem QH(t:Tk)(w:World):
 Calls Tryz.prog 250 #[t.val] w fun e w'=>e= .returned (.bool (By t.lit t.len t.dist))/\Below w.heap.size w w':=by
 obtain⟨lit,len,dist⟩:=t;unfold Tk.val;go_enter Tryz.func250,Tryz.ntmps250
 go_wp2
 all_goals
  go_ret;refine⟨Do ?_,(Ag _ _).alloc (Aj _) _⟩;go_light
  first|(simp_all[By];done)|(simp_all[By];omega)|(subst_vars;simp_all[By];rw[ID];simp)
theorem Nu(t:Tk)(w:World):
 Calls Tryz.prog 185 #[t.val] w fun e w'=>e= .returned (.bool (By t.lit t.len t.dist))/\Below w.heap.size w w':=by
 obtain⟨lit,len,dist⟩:=t;unfold Tk.val;go_enter Tryz.func185,Tryz.ntmps185
 go_wp2
 all_goals
  go_ret;refine⟨Do ?_,(Ag _ _).alloc (Aj _) _⟩;go_light
  first|(simp_all[By];done)|(simp_all[By];omega)|(subst_vars;simp_all[By];rw[ID];simp)
theorem WW{a b:Int}(h1:a=b):Ending.returned (.int .i64 a)= .returned (.int .i64 b):=by rw[h1]
theorem Nz(b:Int)(w:World)(h1:0<=b)(h2:b<=60):
 Calls Tryz.prog 219 #[.int .i64 b] w fun e w'=>e= .returned (.int .i64 (pw b))/\w=w':=by
 go_enter Tryz.func219,Tryz.ntmps219
 go_wp2
 go_loop [3,4] (fun p i=>∃ (k:Nat) (P:Int),(k:Int)<=b/\1<=P/\P<=1152921504606846976/\P=pw k/\i= .int .i64 k/\p= .int .i64 P) (fun _ i=>(b-intOf i).toNat)
 case atStart=>exact⟨0,1,by omega,by omega,by omega,by decide,rfl,rfl⟩
 case round=>
  obtain⟨k,P,hk,h,y,hP,rfl,rfl⟩:=hrel;have HP:=hid hP;clear hP;by_cases j:(k:Int)<b
  ·go_wp2
   go_round
   case rel=>have hs:=XN k (by omega);have hm:=Mo (k+1) 60 (by omega);rw[show pw 60=1152921504606846976 from by decide]at hm;exact⟨k+1,2*P,by omega,by omega,by rw[HP.out];omega,by rw[HP.out,<-hs];rfl,by go_num,rfl⟩
   case measure=>simp[intOf];omega
  ·go_wp2
   go_ret;go_light;exact⟨WW (by rw[HP.out,show(k:Int)=b from by omega]),rfl⟩
theorem Mh(b:Int)(h2:b<=60):wrap64 (2 ^ b.toNat)=pw b/\pw b<=1152921504606846976:=by
 have hm:=Mo b 60 h2;rw[show pw 60=1152921504606846976 from by decide]at hm;have hp:=Q8 b;have e:(2:Int) ^ b.toNat=pw b:=by unfold pw;simp
 rw[e];exact⟨IC _ ⟨by omega,by omega⟩,hm⟩
theorem Wx(x b:Int)(w:World)(h1:0<=b)(h2:b<=60):
 Calls Tryz.prog 289 #[.int .i64 x, .int .i64 b] w fun e w'=>e= .returned (.bool (decide (0<=x/\x<pw b)))/\w=w':=by
 obtain⟨hw,_⟩:=Mh b h2;have HW:=hid hw;clear hw;go_enter Tryz.func289,Tryz.ntmps289
 go_wp2
 all_goals
  go_ret;go_light;refine⟨Do ?_,rfl⟩
  first|(rw[HW.out];simp;omega)|(simp;omega)
theorem Wj(v:Int)(h:1<=v)(h2:v<=4611686018427387903):((Lib.bitLen v.toNat:Nat):Int)=lg v+1:=by
 unfold lg Lib.bitLen
 have i:∀ (f n:Nat),1<=n->n<2 ^ f->Lib.bitLenAux f n=Nat.log2 n+1:=by
  intro f
  induction f with
  |zero=>intro n h1 h2;simp at h2;omega
  |succ f ih=>
   intro n h1 h2;rw[Lib.bitLenAux,Aa (by omega)];rw[Nat.log2_def];by_cases hn:2<=n
   ·rw[Ab hn,ih (n / 2) (by omega) (by rw[En]at h2;omega)];omega
   ·have:n=1:=(by omega);subst this;simp;cases f<;>simp[Lib.bitLenAux]
 rw[i 64 v.toNat (by omega) (by omega)];omega
theorem UT(v:Int)(w:World)(h1:1<=v)(h2:v<=4611686018427387903):
 Calls Tryz.prog 198 #[.int .u64 v] w fun e w'=>e= .returned (.int .i64 (lg v+1))/\w=w':=
 (Tryz.bits_Len v w (by omega) (by omega)).mono fun e w' ⟨he,hw⟩=>⟨by rw[he,Wj v h1 h2],hw.symm⟩
theorem Pc.val_mk(a b c d:Int):Pc.val ⟨a,b,c,d⟩= .agg #[.int .i64 a, .int .i64 b, .int .i64 c, .int .i64 d]:=rfl
theorem Tk.val_mk(a b c:Int):Tk.val ⟨a,b,c⟩= .agg #[.int .u8 a, .int .i64 b, .int .i64 c]:=rfl
end Go.Proofs.YtbgoibedicbkjaaGreatDoor.Toks
