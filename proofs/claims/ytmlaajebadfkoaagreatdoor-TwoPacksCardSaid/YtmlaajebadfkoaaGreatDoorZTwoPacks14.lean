/- The contracts of functions of Go's library that the walks call, laid a -/
import Derived.Test.YtmlaajebadfkoaaGreatDoorZTwoPacks13
import Derived.Test.YtmlaajebadfkoaaGreatDoorZTwoPacks11
import Derived.Shelf.Small.Bits
import Derived.Shelf.Strconv.Itoa0
import Derived.Shelf.Sort.Plain
import Derived.Shelf.Bits.Mul64
import Derived.Shelf.Slices.CompactS
import Derived.Shelf.Slices.Cells
import Derived.Shelf.Slices.In.SortNone
import Derived.Test.YtmlaajebadfkoaaGreatDoorProg
import Derived.Sort.OwnSorted
import Derived.Sort.Grow
import Derived.Lib.OwnBridge
import Derived.Lib.SlicesCompact
namespace Go.Proofs.YtmlaajebadfkoaaGreatDoor end Go.Proofs.YtmlaajebadfkoaaGreatDoor open Go.Proofs.YtmlaajebadfkoaaGreatDoor
open Go.Lib (hid)
namespace Go.Proofs
open Go.Shelf
def Tryz.lays125_ren:Go.Shelf.Ren:=⟨fun|125=>229|128=>270|129=>271|n=>n,fun|46=>186|3=>3|51=>142|53=>56|4=>4|5=>5|9=>9|n=>n,fun|n=>n⟩
theorem Tryz.lays125:Go.Proofs.Lays.n125 Tryz.prog Tryz.lays125_ren:={
 mixed:=by kernel_rfl
 f125:=Tryz.func229.trans (congrArg some (by kernel_rfl))
 f128:=Tryz.func270.trans (congrArg some (by kernel_rfl))
 f129:=Tryz.func271.trans (congrArg some (by kernel_rfl))
 t3:=Tryz.underlying3
 a3:=Tryz.isAgg3
 z3:=Tryz.sizeOf3
 v3:=Tryz.zeroValue3
 t4:=Tryz.underlying4
 a4:=Tryz.isAgg4
 z4:=Tryz.sizeOf4
 v4:=Tryz.zeroValue4
 t5:=Tryz.underlying5
 a5:=Tryz.isAgg5
 z5:=Tryz.sizeOf5
 v5:=Tryz.zeroValue5
 t9:=Tryz.underlying9
 a9:=Tryz.isAgg9
 z9:=Tryz.sizeOf9
 v9:=Tryz.zeroValue9
 t46:=Tryz.underlying186
 a46:=Tryz.isAgg186
 z46:=Tryz.sizeOf186
 v46:=Tryz.zeroValue186
 t51:=Tryz.underlying142
 a51:=Tryz.isAgg142
 z51:=Tryz.sizeOf142
 v51:=Tryz.zeroValue142
 t53:=Tryz.underlying56
 a53:=Tryz.isAgg56
 z53:=Tryz.sizeOf56
 v53:=Tryz.zeroValue56}
theorem Tryz.bits_Len(x:Int)(w:World)(h0:0<=x)(h1:x<=18446744073709551615):
 Calls Tryz.prog 229 #[.int .u64 x] w fun e w'=>e= .returned (.int .i64 (Lib.bitLen x.toNat))/\w'=w:=Any.bits_Len Tryz.lays125 x w h0 h1
def Tryz.lays190_ren:Go.Shelf.Ren:=⟨fun|190=>179|125=>229|258=>228|128=>270|129=>271|302=>261|303=>262|304=>263|305=>264|306=>265|307=>266|308=>267|309=>268|310=>269|333=>290|329=>291|330=>292|334=>293|335=>294|336=>295|344=>306|n=>n,fun|31=>41|9=>9|3=>3|46=>186|0=>0|51=>142|53=>56|4=>4|183=>323|182=>322|131=>57|5=>5|218=>361|222=>364|228=>376|229=>210|n=>n,fun|n=>n⟩
theorem Tryz.lays190:Go.Proofs.Lays.n190 Tryz.prog Tryz.lays190_ren:={
 mixed:=by kernel_rfl
 f125:=Tryz.func229.trans (congrArg some (by kernel_rfl))
 f128:=Tryz.func270.trans (congrArg some (by kernel_rfl))
 f129:=Tryz.func271.trans (congrArg some (by kernel_rfl))
 f190:=Tryz.func179.trans (congrArg some (by kernel_rfl))
 f258:=Tryz.func228.trans (congrArg some (by kernel_rfl))
 f302:=Tryz.func261.trans (congrArg some (by kernel_rfl))
 f303:=Tryz.func262.trans (congrArg some (by kernel_rfl))
 f304:=Tryz.func263.trans (congrArg some (by kernel_rfl))
 f305:=Tryz.func264.trans (congrArg some (by kernel_rfl))
 f306:=Tryz.func265.trans (congrArg some (by kernel_rfl))
 f307:=Tryz.func266.trans (congrArg some (by kernel_rfl))
 f308:=Tryz.func267.trans (congrArg some (by kernel_rfl))
 f309:=Tryz.func268.trans (congrArg some (by kernel_rfl))
 f310:=Tryz.func269.trans (congrArg some (by kernel_rfl))
 f329:=Tryz.func291.trans (congrArg some (by kernel_rfl))
 f330:=Tryz.func292.trans (congrArg some (by kernel_rfl))
 f333:=Tryz.func290.trans (congrArg some (by kernel_rfl))
 f334:=Tryz.func293.trans (congrArg some (by kernel_rfl))
 f335:=Tryz.func294.trans (congrArg some (by kernel_rfl))
 f336:=Tryz.func295.trans (congrArg some (by kernel_rfl))
 f344:=Tryz.func306.trans (congrArg some (by kernel_rfl))
 t0:=Tryz.underlying0
 a0:=Tryz.isAgg0
 z0:=Tryz.sizeOf0
 v0:=Tryz.zeroValue0
 t3:=Tryz.underlying3
 a3:=Tryz.isAgg3
 z3:=Tryz.sizeOf3
 v3:=Tryz.zeroValue3
 t4:=Tryz.underlying4
 a4:=Tryz.isAgg4
 z4:=Tryz.sizeOf4
 v4:=Tryz.zeroValue4
 t5:=Tryz.underlying5
 a5:=Tryz.isAgg5
 z5:=Tryz.sizeOf5
 v5:=Tryz.zeroValue5
 t9:=Tryz.underlying9
 a9:=Tryz.isAgg9
 z9:=Tryz.sizeOf9
 v9:=Tryz.zeroValue9
 t31:=Tryz.underlying41
 a31:=Tryz.isAgg41
 z31:=Tryz.sizeOf41
 v31:=Tryz.zeroValue41
 t46:=Tryz.underlying186
 a46:=Tryz.isAgg186
 z46:=Tryz.sizeOf186
 v46:=Tryz.zeroValue186
 t51:=Tryz.underlying142
 a51:=Tryz.isAgg142
 z51:=Tryz.sizeOf142
 v51:=Tryz.zeroValue142
 t53:=Tryz.underlying56
 a53:=Tryz.isAgg56
 z53:=Tryz.sizeOf56
 v53:=Tryz.zeroValue56
 t131:=Tryz.underlying57
 a131:=Tryz.isAgg57
 z131:=Tryz.sizeOf57
 v131:=Tryz.zeroValue57
 t182:=Tryz.underlying322
 a182:=Tryz.isAgg322
 z182:=Tryz.sizeOf322
 v182:=Tryz.zeroValue322
 t183:=Tryz.underlying323
 a183:=Tryz.isAgg323
 z183:=Tryz.sizeOf323
 v183:=Tryz.zeroValue323
 t218:=Tryz.underlying361
 a218:=Tryz.isAgg361
 z218:=Tryz.sizeOf361
 v218:=Tryz.zeroValue361
 t222:=Tryz.underlying364
 a222:=Tryz.isAgg364
 z222:=Tryz.sizeOf364
 v222:=Tryz.zeroValue364
 t228:=Tryz.underlying376
 a228:=Tryz.isAgg376
 z228:=Tryz.sizeOf376
 v228:=Tryz.zeroValue376
 t229:=Tryz.underlying210
 a229:=Tryz.isAgg210
 z229:=Tryz.sizeOf210
 v229:=Tryz.zeroValue210}
open Go.Sort Go.RowKit in
theorem Tryz.slices_Sort_string(blk off cap:Nat)(ss:List (List UInt8))(w:World)(hH:Holds encStr w blk off ss.toArray)(hblk:blk<w.heap.size)(hsz:ss.length<4611686018427387904):
 Calls Tryz.prog 179 #[.slice (some ⟨blk,off,none⟩) ss.length cap] w fun e w'=>
  e= .returned (.tuple #[])/\∃n os,w'=grow (putRow encStr (Sort.ahead w n) blk off (ss.mergeSort fun x y=>decide (x<=y)).toArray) os:=Any.slices_Sort_string Tryz.lays190 blk off cap ss w hH hblk hsz
def Tryz.lays194_ren:Go.Shelf.Ren:=⟨fun|194=>180|n=>n,fun|31=>41|9=>9|3=>3|4=>4|0=>0|n=>n,fun|n=>n⟩
theorem Tryz.lays194:Go.Proofs.Lays.n194 Tryz.prog Tryz.lays194_ren:={
 mixed:=by kernel_rfl
 f194:=Tryz.func180.trans (congrArg some (by kernel_rfl))
 t0:=Tryz.underlying0
 a0:=Tryz.isAgg0
 z0:=Tryz.sizeOf0
 v0:=Tryz.zeroValue0
 t3:=Tryz.underlying3
 a3:=Tryz.isAgg3
 z3:=Tryz.sizeOf3
 v3:=Tryz.zeroValue3
 t4:=Tryz.underlying4
 a4:=Tryz.isAgg4
 z4:=Tryz.sizeOf4
 v4:=Tryz.zeroValue4
 t9:=Tryz.underlying9
 a9:=Tryz.isAgg9
 z9:=Tryz.sizeOf9
 v9:=Tryz.zeroValue9
 t31:=Tryz.underlying41
 a31:=Tryz.isAgg41
 z31:=Tryz.sizeOf41
 v31:=Tryz.zeroValue41}
open Go.RowKit Go.Lib Go.Sort in
theorem Tryz.slices_Compact_string(blk off cap:Nat)(zs:List (List UInt8))(w:World)(hH:Holds encStr w blk off zs.toArray)(hsz:zs.length<=9223372036854775807)(hcap:zs.length<=cap):
 Calls Tryz.prog 180 #[.slice (some ⟨blk,off,none⟩) zs.length cap] w fun e w'=>e= .returned (.slice (some ⟨blk,off,none⟩) (Lib.compact zs).length cap)/\∃q,w'=putRow encStr (Sort.ahead w q) blk off (Lib.compact zs++List.replicate (zs.length-(Lib.compact zs).length) []).toArray:=Any.slices_Compact_string Tryz.lays194 blk off cap zs w hH hsz hcap
open Go.RowKit Go.Lib Go.Sort in
theorem Tryz.slices_Compact_string_empty(a:Option Addr)(cap:Nat)(w:World):
 Calls Tryz.prog 180 #[.slice a 0 cap] w fun e w'=>e= .returned (.slice a 0 cap)/\w'=w:=Any.slices_Compact_string_empty Tryz.lays194 a cap w
open Go.RowKit Go.Sort in
theorem Tryz.slices_Sort_string_none(p:Option Addr)(cap:Nat)(w:World):
 Calls Tryz.prog 179 #[.slice p 0 cap] w fun e w'=>e= .returned (.tuple #[])/\w'=w:=Any.slices_Sort_string_none Tryz.lays190 p cap w
end Go.Proofs
namespace Go.Proofs.YtmlaajebadfkoaaGreatDoor.Idx
open Go.RowKit Mem Own Canon Sift Go.Sort
theorem sdZb{zs:List Str}{u:Str}:u∈Lib.compact zs↔u∈zs:=by
 unfold Lib.compact Lib.compactUpTo
 rw[List.mem_map]
 constructor
 ·rintro⟨i,hi,rfl⟩
  have hi:=(List.mem_filter.1 hi).1
  rw[List.mem_range]at hi
  rw[getElem!_pos zs.toArray i (by simpa using hi)]
  simp
 ·intro hu
  obtain⟨j,hj,rfl⟩:=List.getElem_of_mem hu
  clear hu
  induction j with
  |zero=>exact⟨0,List.mem_filter.2 ⟨List.mem_range.2 hj,by simp[Lib.keeps]⟩,by rw[getElem!_pos zs.toArray 0 (by simpa using hj)];simp⟩
  |succ j ih=>
   have e1:zs.toArray[j+1]! =zs[j+1]:=by rw[getElem!_pos zs.toArray (j+1) (by simpa using hj)];simp
   have e0:zs.toArray[j]! =zs[j]:=by rw[getElem!_pos zs.toArray j (by simp;omega)];simp
   by_cases h:zs[j+1]=zs[j]
   ·obtain⟨i,h1,h2⟩:=ih (by omega)
    exact⟨i,h1,h2.trans h.symm⟩
   ·refine⟨j+1,List.mem_filter.2 ⟨List.mem_range.2 hj,?_⟩,e1⟩
    unfold Lib.keeps
    rw[decide_eq_true_eq]
    right
    rw[Nat.add_sub_cancel,e1,e0]
    exact h
theorem owZ{zs:List Str}(h:zs.Pairwise (·<= ·)):ydZ (Lib.compact zs):=by
 have hp:=List.pairwise_iff_getElem.1 h
 unfold ydZ Lib.compact Lib.compactUpTo
 rw[List.pairwise_map]
 refine List.Pairwise.imp_of_mem (R:=(·< ·)) ?_ (List.Pairwise.filter _ List.pairwise_lt_range)
 intro i j hi hj hij
 obtain⟨hj1,hj2⟩:=List.mem_filter.1 hj
 rw[List.mem_range]at hj1
 have e0:zs.toArray[i]! =zs[i]:=by rw[getElem!_pos zs.toArray i (by simp;omega)];simp
 have e1:zs.toArray[j]! =zs[j]:=by rw[getElem!_pos zs.toArray j (by simpa using hj1)];simp
 have e2:zs.toArray[j-1]! =zs[j-1]:=by rw[getElem!_pos zs.toArray (j-1) (by simp;omega)];simp
 unfold Lib.keeps at hj2
 rw[decide_eq_true_eq,e1,e2]at hj2
 have hne:zs[j]≠zs[j-1]:=hj2.resolve_left (by omega)
 have hle:=hp (j-1) j (by omega) hj1 (by omega)
 have hlt:zs[j-1]<zs[j]:=(plZ zs[j-1] zs[j]).elim id fun k=>k.elim (fun k=>absurd k.symm hne) (fun k=>absurd k hle)
 rw[e0,e1]
 by_cases hi1:i=j-1
 ·subst hi1;exact hlt
 ·have h2:=hp i (j-1) (by omega) (by omega) (by omega)
  rcases plZ zs[i] zs[j-1]with k|k|k
  ·exact qmZ k hlt
  ·rw[k];exact hlt
  ·exact absurd k h2
def jjZ(l:List Str):List Str:=l.mergeSort fun x y=>decide (x<=y)
theorem qaZb(l:List Str):(jjZ l).Pairwise (·<= ·):=by
 have h:=List.pairwise_mergeSort (le:=fun(x y:Str)=>decide (x<=y)) (fun a b c h1 h2=>by
  simp only[decide_eq_true_eq]at h1 h2 ⊢
  exact List.le_trans h1 h2) (fun a b=>by
  simp only[Bool.or_eq_true,decide_eq_true_eq]
  exact List.le_total a b) l
 exact h.imp fun h=>of_decide_eq_true h
theorem zxZ{l:List Str}{u:Str}:u∈jjZ l↔u∈l:=List.mem_mergeSort
theorem tdZb(l:List Str):Lib.compact (jjZ l)=zZ [] l:=
 poZ (owZ (qaZb l)) (diZ l List.Pairwise.nil) fun s=>by rw[sdZb,zxZ,alZ];simp
theorem imZb(l:List Str):l.map encStr=abZ l:=rfl
theorem jmZb{w:World}{base n c:Nat}{A:Option Addr}{ss:List Str}(h:w.ownsRow base 9 1 (.slice A n c) n (abZ ss))(hn:n<=1000000):
 Calls Tryz.prog 179 #[.slice A n c] w fun e w'=>e= .returned (.tuple #[])/\w'.ownsRow base 9 1 (.slice A n c) n (abZ (jjZ ss))/\w.grownBy w' (Value.slice A n c).ownBlock:=by
 rcases h.2 with ⟨hv,h0⟩|⟨g,cap,cur,hv,hbase,hb,h1,h2,h3,h4⟩
 ·injection hv with e1 e2 e3
  subst e1 e2 e3
  have hs:ss= []:=by
   have:=h.1
   simpa[abZ]using this
  subst hs
  refine(Tryz.slices_Sort_string_none none 0 w).mono ?_
  rintro e w' ⟨rfl,rfl⟩
  refine⟨rfl,?_,World.grownBy.refl _ _⟩
  rw[show jjZ []= [] by simp[jjZ]]
  exact World.ownsRow_nil _ _ _ _
 ·injection hv with e1 e2 e3
  subst e1 e3
  obtain⟨g',cap',hA,hbg,hgl,hncap,hcm,hlen,hH⟩:=Lib.holds_of_ownsRow (enc:=encStr) (zs:=ss) h (by simp)
  injection hA with hA1 hA2 hA3
  injection hA1 with hA1
  injection hA1 with hA1
  subst hA1 hA3
  have hD:=Tryz.slices_Sort_string g 0 c ss w hH hgl (by omega)
  rw[hlen]at hD
  refine hD.mono ?_
  rintro e w' ⟨rfl,nn,os,rfl⟩
  have hl2:(jjZ ss).length=ss.length:=List.length_mergeSort ss
  subst hlen
  exact⟨rfl,ownsRow_sorted (n:=nn) (os:=os) (ts:=jjZ ss) hl2 hbase hb h1 h2 h3,grownBy_sorted _⟩
theorem udZb{w:World}{base n c:Nat}{A:Option Addr}{ss:List Str}(h:w.ownsRow base 9 1 (.slice A n c) n (abZ ss))(hn:n<=1000000):
 Calls Tryz.prog 180 #[.slice A n c] w fun e w'=>e= .returned (.slice A (Lib.compact ss).length c)/\w'.ownsRow base 9 1 (.slice A (Lib.compact ss).length c) (Lib.compact ss).length (abZ (Lib.compact ss))/\∀a,Below base a w->Below base a w':=by
 rcases h.2 with ⟨hv,h0⟩|⟨g,cap,cur,hv,hbase,hb,h1,h2,h3,h4⟩
 ·injection hv with e1 e2 e3
  subst e1 e2 e3
  have hs:ss= []:=by
   have:=h.1
   simpa[abZ]using this
  subst hs
  refine(Tryz.slices_Compact_string_empty none 0 w).mono ?_
  rintro e w' ⟨rfl,rfl⟩
  exact⟨rfl,World.ownsRow_nil _ _ _ _,fun a h=>h⟩
 ·injection hv with e1 e2 e3
  subst e1 e3
  obtain⟨g',cap',hA,hbg,hgl,hncap,hcm,hlen,hH⟩:=Lib.holds_of_ownsRow (enc:=encStr) (zs:=ss) h (by simp)
  injection hA with hA1 hA2 hA3
  injection hA1 with hA1
  injection hA1 with hA1
  subst hA1 hA3
  have hD:=Tryz.slices_Compact_string g 0 c ss w hH (by omega) (by omega)
  rw[hlen]at hD
  refine hD.mono ?_
  rintro e w' ⟨rfl,q,rfl⟩
  have hle:=Lib.compact_length_le ss
  have hc:=Lib.ownsRow_putRow (enc:=encStr) (q:=q) (k:=(Lib.compact ss).length) (ys:=Lib.compact ss++List.replicate (n-(Lib.compact ss).length) []) h (by simp;omega) (by omega)
  rw[List.take_left]at hc
  exact⟨rfl,hc,fun a h=>Lib.below_putRow h hbase⟩
def hgZ(ts:List Str)(w:World)(e:Ending)(w':World):Prop:=
 ∃v,e= .returned v/\w'.ownsRow w.heap.size 9 1 v ts.length (abZ ts)/\Below w.heap.size w w'
theorem oqZ:∀ (l row:List UInt8),(split row l).length<=row.length+l.length
 | [],row=>by rw[split];have:=kkZ row;simpa using this
 |c :: t,row=>by
  rw[split]
  split
  ·have:=oqZ t (row++ [rdZ c])
   simp at this ⊢
   omega
  ·have h1:=oqZ t []
   have h2:=kkZ row
   rw[List.length_append,List.length_cons]
   simp at h1
   omega
theorem niZ(l:List UInt8):(words l).length<=l.length:=by have:=oqZ l [];simpa[words]using this
set_option maxHeartbeats 1000000 in
set_option maxRecDepth 100000 in
theorem xgZb(w:World)(tm lv:Int)(so tx:ByteArray)(hs:so.size<=50000)(ht:tx.size<=50000):
 Calls Tryz.prog 130 #[.agg #[.int .u64 tm, .int .u8 lv, .string so, .string tx]] w (hgZ (eiZ tx.data.toList so.data.toList) w):=by
 have D1:Hid (∀ (B:Nat) (a wx:World) (bo:Nat),Below B a wx->B<=a.heap.size->Blk wx bo 41 #[.slice none 0 0]->B<=bo->Calls Tryz.prog 176 #[.string tx,fiZ bo] wx (ogZ idS [] tx B a bo)):=fun B a wx bo hb ha ho hl=>
  pdZb B a wx bo tx [] (.slice none 0 0) (by omega) (by simp) ht hb ha ho (World.ownsRow_nil _ _ _ _) hl
 have D2:Hid (∀ (B:Nat) (a wx:World) (bo:Nat) (ws0:List Str) (v0:Value),ws0.length<=50000->Below B a wx->B<=a.heap.size->Blk wx bo 41 #[v0]->wx.ownsRow B 9 1 v0 ws0.length (abZ ws0)->B<=bo->Calls Tryz.prog 176 #[.string so,giZ bo] wx (ogZ atS ws0 so B a bo)):=fun B a wx bo ws0 v0 h0 hb ha ho hw hl=>
  rdZb B a wx bo so ws0 v0 (by omega) h0 hs hb ha ho hw hl
 have hT:qoZ tx.data.toList so.data.toList=(words tx.data.toList).map idS++(words so.data.toList).map atS:=by
  unfold qoZ
  rw[show(words tx.data.toList).map idS=words tx.data.toList from List.map_id' _]
  rfl
 have hW1:((words tx.data.toList).map idS).length<=50000:=by
  have:=niZ tx.data.toList
  have h2:=Lib.size_eq tx
  rw[List.length_map]
  omega
 have hW2:((words so.data.toList).map atS).length<=50000:=by
  have:=niZ so.data.toList
  have h2:=Lib.size_eq so
  rw[List.length_map]
  omega
 have hTE:eiZ tx.data.toList so.data.toList=Lib.compact (jjZ ((words tx.data.toList).map idS++(words so.data.toList).map atS)):=by rw[tdZb,<-hT];rfl
 unfold hgZ
 rw[hTE]
 unfold ogZ at D1 D2
 clear hT hTE hs ht
 generalize (words tx.data.toList).map idS=W1 at *
 generalize (words so.data.toList).map atS=W2 at *
 unfold fiZ at D1
 unfold giZ at D2
 obtain⟨WS,hWS⟩:∃WS,WS=W1++W2:=⟨_,rfl⟩
 rw[<-hWS]
 have HWS:=hid hWS
 clear hWS
 go_enter Tryz.func130,Tryz.ntmps130
 go_wp2_with fail
 have hb0:Below w.heap.size w (w.alloc (.cells #[.int .u64 tm, .int .u8 lv, .string so, .string tx] 72)):=aZ (Below.refl _ _)
 have hbr:Blk (w.alloc (.cells #[.int .u64 tm, .int .u8 lv, .string so, .string tx] 72)) w.heap.size 72 #[.int .u64 tm, .int .u8 lv, .string so, .string tx]:=Blk.made _ _ _
 have hza:(w.alloc (.cells #[.int .u64 tm, .int .u8 lv, .string so, .string tx] 72)).heap.size=w.heap.size+1:=by simp
 generalize w.alloc (.cells #[.int .u64 tm, .int .u8 lv, .string so, .string tx] 72)=wa at *
 have hb1:Below wa.heap.size wa (wa.alloc (.cells #[.slice none 0 0] 41)):=aZ (Below.refl _ _)
 have hbo:Blk (wa.alloc (.cells #[.slice none 0 0] 41)) wa.heap.size 41 #[.slice none 0 0]:=Blk.made _ _ _
 rw[<-hza]
 have E1:=hid (D1.out wa.heap.size wa _ wa.heap.size hb1 (Nat.le_refl _) hbo (Nat.le_refl _))
 have HB0:=hid hb0
 have HBR:=hid hbr
 clear D1 hb1 hbo hb0 hbr hza
 obtain⟨B,hB⟩:∃B,B=wa.heap.size:=⟨_,rfl⟩
 have hB2:B<=wa.heap.size:=by omega
 rw[<-hB]at E1 ⊢
 have HWB:Hid (w.heap.size<B):=by show _<_;rw[hB];exact HBR.out.lt
 have HBE:=hid hB
 clear hB
 refine E1.out.mono ?_
 rintro e w1 ⟨rfl,hb1,v1,hbo1,hw1⟩
 have HW1:Hid (w1.ownsRow B 9 1 v1 W1.length (abZ W1)):=hw1
 have HBO1:=hid hbo1
 have HB1:=hid hb1
 have E2:=hid (D2.out B wa w1 B W1 v1 hW1 hb1 hB2 hbo1 hw1 (Nat.le_refl _))
 have c2:w1.cell? ⟨w.heap.size,2,none⟩=some (.string so):=(HB1.out.cell (p:=⟨w.heap.size,2,none⟩) HWB.out).trans (HBR.out.cell 2)
 clear E1 D2 hb1 hbo1 hw1
 go_wp2_with fail
 refine E2.out.mono ?_
 rintro e w2 ⟨rfl,hb2,v2,hbo2,hw2⟩
 obtain⟨A2,c3,rfl⟩:=bZ hw2
 have k0:=hbo2.cell 0
 simp only[List.getElem?_toArray,List.getElem?_cons_zero]at k0
 have hwl:(W1++W2).length<=1000000:=by rw[List.length_append];omega
 rw[<-HWS.out]at hwl k0 hbo2 hw2
 have E3:=hid (jmZb hw2 hwl)
 have HBO2:=hid hbo2
 have HB2:=hid hb2
 have HW2:=hid hw2
 obtain⟨n,hn⟩:∃n,n=WS.length:=⟨_,rfl⟩
 rw[<-hn]at k0 E3 HW2 hwl HBO2
 have HN:=hid hn
 clear E2 c2 hb2 hbo2 hw2 HW1 HBO1 HB1 hn
 go_wp2_with fail
 refine E3.out.mono ?_
 rintro e w3 ⟨rfl,hw3,hg3⟩
 have hbo3:=HBO2.out.grown hg3 (fun e=>kZ HW2.out HBO2.out (by decide) e.symm)
 have k3:=hbo3.cell 0
 simp only[List.getElem?_toArray,List.getElem?_cons_zero]at k3
 have HB3:Hid (Below B wa w3):=HB2.out.grown hg3 (Nat.le_trans hB2 HB2.out.size) (fun y hy=>(World.ownsRow.lt HW2.out y hy).1)
 have E4:=hid (udZb hw3 hwl)
 clear E3 hw3 hg3 hbo3 k0 HB2 HW2 HBO2
 go_wp2_with fail
 refine E4.out.mono ?_
 rintro e w4 ⟨rfl,hw4,hb4⟩
 have HB4:Hid (Below w.heap.size w w4):=HB0.out.trans ((hb4 wa HB3.out).mono (Nat.le_of_lt HWB.out))
 have HW4:=hid (nZ hw4 (Nat.le_of_lt HWB.out))
 clear E4 hw4 hb4
 go_wp2_with fail
 go_ret
 exact⟨_,rfl,HW4.out,HB4.out⟩
end Go.Proofs.YtmlaajebadfkoaaGreatDoor.Idx
