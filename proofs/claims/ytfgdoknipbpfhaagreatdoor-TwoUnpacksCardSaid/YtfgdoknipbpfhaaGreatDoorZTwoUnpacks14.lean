/- The contracts of fun -/
import Derived.Test.YtfgdoknipbpfhaaGreatDoorZTwoUnpacks13
import Derived.Shelf.Small.Bits
import Derived.Shelf.Strconv.Itoa0
import Derived.Shelf.Sort.Plain
import Derived.Shelf.Bits.Mul64
import Derived.Shelf.Slices.CompactS
import Derived.Shelf.Slices.Cells
import Derived.Shelf.Slices.In.SortNone
import Derived.Sort.OwnSorted
import Derived.Sort.Grow
import Derived.Lib.OwnBridge
import Derived.Lib.SlicesCompact
namespace Go.Proofs.YtfgdoknipbpfhaaGreatDoor end Go.Proofs.YtfgdoknipbpfhaaGreatDoor open Go.Proofs.YtfgdoknipbpfhaaGreatDoor
open Go.Lib (hid)
namespace Go.Proofs
open Go.Shelf
def Tryz.lays125_ren:Go.Shelf.Ren:=⟨fun|125=>233|128=>281|129=>282|n=>n,fun|46=>220|3=>3|51=>149|53=>41|4=>4|5=>5|9=>9|n=>n,fun|n=>n⟩
theorem Tryz.lays125:Go.Proofs.Lays.n125 Tryz.prog Tryz.lays125_ren:={
 mixed:=kG
 f125:=Tryz.func233.trans (AI some kG)
 f128:=Tryz.func281.trans (AI some kG)
 f129:=Tryz.func282.trans (AI some kG)
 t3:=Tryz.underlying3
 a3:=Tryz.isAgg3
 z3:=Tryz.sizeOf3
 v3:=Tryz.zeroValue3
 t4:=Tryz.underlying4
 a4:=Tryz.isAgg4
 z4:=Tryz.sizeOf4
 v4:=Tryz.zeroValue4
 t5:=Tryz.underlying5
 a5:=Tryz.isAgg5
 z5:=Tryz.sizeOf5
 v5:=Tryz.zeroValue5
 t9:=Tryz.underlying9
 a9:=Tryz.isAgg9
 z9:=Tryz.sizeOf9
 v9:=Tryz.zeroValue9
 t46:=Tryz.underlying220
 a46:=Tryz.isAgg220
 z46:=Tryz.sizeOf220
 v46:=Tryz.zeroValue220
 t51:=Tryz.underlying149
 a51:=Tryz.isAgg149
 z51:=Tryz.sizeOf149
 v51:=Tryz.zeroValue149
 t53:=Tryz.underlying41
 a53:=Tryz.isAgg41
 z53:=Tryz.sizeOf41
 v53:=Tryz.zeroValue41}
theorem Tryz.bits_Len(x:Int)(w:World)(h0:0<=x)(h1:x<=18446744073709551615):
 Calls Tryz.prog 233 #[.int .u64 x] w fun e w'=>e= .returned (.int .i64 (Lib.bitLen x.toNat))/\w'=w:=Any.bits_Len Tryz.lays125 x w h0 h1
def Tryz.lays190_ren:Go.Shelf.Ren:=⟨fun|190=>181|125=>233|258=>237|128=>281|129=>282|302=>283|303=>284|304=>285|305=>286|306=>287|307=>288|308=>289|309=>290|310=>291|333=>320|329=>321|330=>322|334=>323|335=>324|336=>325|344=>351|n=>n,fun|31=>50|9=>9|3=>3|46=>220|0=>0|51=>149|53=>41|4=>4|183=>374|182=>373|131=>35|5=>5|218=>405|222=>408|228=>448|229=>183|n=>n,fun|n=>n⟩
theorem Tryz.lays190:Go.Proofs.Lays.n190 Tryz.prog Tryz.lays190_ren:={
 mixed:=kG
 f125:=Tryz.func233.trans (AI some kG)
 f128:=Tryz.func281.trans (AI some kG)
 f129:=Tryz.func282.trans (AI some kG)
 f190:=Tryz.func181.trans (AI some kG)
 f258:=Tryz.func237.trans (AI some kG)
 f302:=Tryz.func283.trans (AI some kG)
 f303:=Tryz.func284.trans (AI some kG)
 f304:=Tryz.func285.trans (AI some kG)
 f305:=Tryz.func286.trans (AI some kG)
 f306:=Tryz.func287.trans (AI some kG)
 f307:=Tryz.func288.trans (AI some kG)
 f308:=Tryz.func289.trans (AI some kG)
 f309:=Tryz.func290.trans (AI some kG)
 f310:=Tryz.func291.trans (AI some kG)
 f329:=Tryz.func321.trans (AI some kG)
 f330:=Tryz.func322.trans (AI some kG)
 f333:=Tryz.func320.trans (AI some kG)
 f334:=Tryz.func323.trans (AI some kG)
 f335:=Tryz.func324.trans (AI some kG)
 f336:=Tryz.func325.trans (AI some kG)
 f344:=Tryz.func351.trans (AI some kG)
 t0:=Tryz.underlying0
 a0:=Tryz.isAgg0
 z0:=Tryz.sizeOf0
 v0:=Tryz.zeroValue0
 t3:=Tryz.underlying3
 a3:=Tryz.isAgg3
 z3:=Tryz.sizeOf3
 v3:=Tryz.zeroValue3
 t4:=Tryz.underlying4
 a4:=Tryz.isAgg4
 z4:=Tryz.sizeOf4
 v4:=Tryz.zeroValue4
 t5:=Tryz.underlying5
 a5:=Tryz.isAgg5
 z5:=Tryz.sizeOf5
 v5:=Tryz.zeroValue5
 t9:=Tryz.underlying9
 a9:=Tryz.isAgg9
 z9:=Tryz.sizeOf9
 v9:=Tryz.zeroValue9
 t31:=Tryz.underlying50
 a31:=Tryz.isAgg50
 z31:=Tryz.sizeOf50
 v31:=Tryz.zeroValue50
 t46:=Tryz.underlying220
 a46:=Tryz.isAgg220
 z46:=Tryz.sizeOf220
 v46:=Tryz.zeroValue220
 t51:=Tryz.underlying149
 a51:=Tryz.isAgg149
 z51:=Tryz.sizeOf149
 v51:=Tryz.zeroValue149
 t53:=Tryz.underlying41
 a53:=Tryz.isAgg41
 z53:=Tryz.sizeOf41
 v53:=Tryz.zeroValue41
 t131:=Tryz.underlying35
 a131:=Tryz.isAgg35
 z131:=Tryz.sizeOf35
 v131:=Tryz.zeroValue35
 t182:=Tryz.underlying373
 a182:=Tryz.isAgg373
 z182:=Tryz.sizeOf373
 v182:=Tryz.zeroValue373
 t183:=Tryz.underlying374
 a183:=Tryz.isAgg374
 z183:=Tryz.sizeOf374
 v183:=Tryz.zeroValue374
 t218:=Tryz.underlying405
 a218:=Tryz.isAgg405
 z218:=Tryz.sizeOf405
 v218:=Tryz.zeroValue405
 t222:=Tryz.underlying408
 a222:=Tryz.isAgg408
 z222:=Tryz.sizeOf408
 v222:=Tryz.zeroValue408
 t228:=Tryz.underlying448
 a228:=Tryz.isAgg448
 z228:=Tryz.sizeOf448
 v228:=Tryz.zeroValue448
 t229:=Tryz.underlying183
 a229:=Tryz.isAgg183
 z229:=Tryz.sizeOf183
 v229:=Tryz.zeroValue183}
open Go.Sort Go.RowKit in
theorem Tryz.slices_Sort_string(blk h i:Nat)(ss:List (List UInt8))(w:World)(hH:Holds encStr w blk h ss.toArray)(j:blk<w.heap.size)(z:ss.length<4611686018427387904):
 Calls Tryz.prog 181 #[.slice (some ⟨blk,h,none⟩) ss.length i] w fun e w'=>e= .returned (.tuple #[])/\∃n os,w'=grow (putRow encStr (Sort.ahead w n) blk h (ss.mergeSort fun x y=>decide (x<=y)).toArray) os:=Any.slices_Sort_string Tryz.lays190 blk h i ss w hH j z
def Tryz.lays194_ren:Go.Shelf.Ren:=⟨fun|194=>182|n=>n,fun|31=>50|9=>9|3=>3|4=>4|0=>0|n=>n,fun|n=>n⟩
theorem Tryz.lays194:Go.Proofs.Lays.n194 Tryz.prog Tryz.lays194_ren:={
 mixed:=kG
 f194:=Tryz.func182.trans (AI some kG)
 t0:=Tryz.underlying0
 a0:=Tryz.isAgg0
 z0:=Tryz.sizeOf0
 v0:=Tryz.zeroValue0
 t3:=Tryz.underlying3
 a3:=Tryz.isAgg3
 z3:=Tryz.sizeOf3
 v3:=Tryz.zeroValue3
 t4:=Tryz.underlying4
 a4:=Tryz.isAgg4
 z4:=Tryz.sizeOf4
 v4:=Tryz.zeroValue4
 t9:=Tryz.underlying9
 a9:=Tryz.isAgg9
 z9:=Tryz.sizeOf9
 v9:=Tryz.zeroValue9
 t31:=Tryz.underlying50
 a31:=Tryz.isAgg50
 z31:=Tryz.sizeOf50
 v31:=Tryz.zeroValue50}
open Go.RowKit Go.Lib Go.Sort in
theorem Tryz.slices_Compact_string(blk h i:Nat)(zs:List (List UInt8))(w:World)(hH:Holds encStr w blk h zs.toArray)(y:zs.length<=9223372036854775807)(j:zs.length<=i):
 Calls Tryz.prog 182 #[.slice (some ⟨blk,h,none⟩) zs.length i] w fun e w'=>e= .returned (.slice (some ⟨blk,h,none⟩) (Lib.compact zs).length i)/\∃q,w'=putRow encStr (Sort.ahead w q) blk h (Lib.compact zs++List.replicate (zs.length-(Lib.compact zs).length) []).toArray:=Any.slices_Compact_string Tryz.lays194 blk h i zs w hH y j
open Go.RowKit Go.Lib Go.Sort in
theorem Tryz.slices_Compact_string_empty(a:Option Addr)(h:Nat)(w:World):
 Calls Tryz.prog 182 #[.slice a 0 h] w fun e w'=>e= .returned (.slice a 0 h)/\w'=w:=Any.slices_Compact_string_empty Tryz.lays194 a h w
open Go.RowKit Go.Sort in
theorem Tryz.slices_Sort_string_none(p:Option Addr)(h:Nat)(w:World):
 Calls Tryz.prog 181 #[.slice p 0 h] w fun e w'=>e= .returned (.tuple #[])/\w'=w:=Any.slices_Sort_string_none Tryz.lays190 p h w
end Go.Proofs
namespace Go.Proofs.YtfgdoknipbpfhaaGreatDoor.Idx
open Go.RowKit Mem Own Canon Sift Go.Sort
theorem Z4{zs:List Str}{u:Str}:u∈Lib.compact zs↔u∈zs:=by
 unfold Lib.compact Lib.compactUpTo;rw[ET];constructor
 ·rintro⟨i,hi,rfl⟩;have hi:=(List.mem_filter.1 hi).1;rw[ES]at hi;rw[getElem!_pos zs.toArray i (by simpa using hi)];simp
 ·intro hu;obtain⟨j,hj,rfl⟩:=List.getElem_of_mem hu;clear hu
  induction j with
  |zero=>exact⟨0,List.mem_filter.2 ⟨ES.2 hj,by simp[Lib.keeps]⟩,by rw[getElem!_pos zs.toArray 0 (by simpa using hj)];simp⟩
  |succ j ih=>
   have e1:zs.toArray[j+1]! =zs[j+1]:=(by rw[getElem!_pos zs.toArray (j+1) (by simpa using hj)];simp);have e0:zs.toArray[j]! =zs[j]:=(by rw[getElem!_pos zs.toArray j ni];simp);by_cases h:zs[j+1]=zs[j]
   ·obtain⟨i,h1,h2⟩:=ih kR;exact⟨i,h1,h2.trans h.symm⟩
   ·refine⟨j+1,List.mem_filter.2 ⟨ES.2 hj,?_⟩,e1⟩;unfold Lib.keeps;rw[decide_eq_true_eq]
    right
    rw[Nat.add_sub_cancel,e1,e0];exact h
theorem Y3{zs:List Str}(h:zs.Pairwise (·<= ·)):Er (Lib.compact zs):=by
 have hp:=List.pairwise_iff_getElem.1 h;unfold Er Lib.compact Lib.compactUpTo;rw[List.pairwise_map];refine List.Pairwise.imp_of_mem (R:=(·< ·)) ?_ (List.Pairwise.filter _ List.pairwise_lt_range);intro i j hi hj M;obtain⟨z,E⟩:=List.mem_filter.1 hj;rw[ES]at z;have e0:zs.toArray[i]! =zs[i]:=by rw[getElem!_pos zs.toArray i ni];simp
 have e1:zs.toArray[j]! =zs[j]:=by rw[getElem!_pos zs.toArray j (by simpa using z)];simp
 have e2:zs.toArray[j-1]! =zs[j-1]:=by rw[getElem!_pos zs.toArray (j-1) ni];simp
 unfold Lib.keeps at E;rw[decide_eq_true_eq,e1,e2]at E;have J:zs[j]≠zs[j-1]:=E.resolve_left kR;have G:=hp (j-1) j kR z kR;have y:zs[j-1]<zs[j]:=(Ja zs[j-1] zs[j]).elim id fun k=>k.elim (fun k=>absurd k.symm J) (fun k=>absurd k G);rw[e0,e1];by_cases L:i=j-1
 ·subst L;exact y
 ·have h2:=hp i (j-1) kR kR kR;rcases Ja zs[i] zs[j-1]with k|k|k
  ·exact LM k y
  ·rw[k];exact y
  ·exact absurd k h2
def Gw(l:List Str):List Str:=l.mergeSort fun x y=>decide (x<=y)
theorem Rs(l:List Str):(Gw l).Pairwise (·<= ·):=by
 have h:=List.pairwise_mergeSort (le:=fun(x y:Str)=>decide (x<=y)) (fun a b c h1 h2=>by
  simp only[decide_eq_true_eq]at h1 h2 ⊢;exact List.le_trans h1 h2) (fun a b=>by
  simp only[Bool.or_eq_true,decide_eq_true_eq];exact List.le_total a b) l
 exact h.imp fun h=>of_decide_eq_true h
theorem PX{l:List Str}{u:Str}:u∈Gw l↔u∈l:=List.mem_mergeSort
theorem ZO(l:List Str):Lib.compact (Gw l)=Bk [] l:=
 N4 (Y3 (Rs l)) (LD l List.Pairwise.nil) fun s=>by rw[Z4,PX,LC];simp
theorem Uw(l:List Str):l.map encStr=AD l:=rfl
theorem Uh{w:World}{base n c:Nat}{A:Option Addr}{ss:List Str}(h:w.ownsRow base 9 1 (.slice A n c) n (AD ss))(hn:n<=1000000):
 Calls Tryz.prog 181 #[.slice A n c] w fun e w'=>e= .returned (.tuple #[])/\w'.ownsRow base 9 1 (.slice A n c) n (AD (Gw ss))/\w.grownBy w' (Value.slice A n c).ownBlock:=by
 rcases h.2 with ⟨hv,h0⟩|⟨g,L,cur,hv,j,hb,h1,h2,h3,h4⟩
 ·injection hv with e1 e2 e3;subst e1 e2 e3;have hs:ss= []:=by have:=h.1;simpa[AD]using this
  subst hs;refine(Tryz.slices_Sort_string_none none 0 w).mono ?_;rintro e w' ⟨rfl,rfl⟩;refine⟨rfl,?_,World.grownBy.refl _ _⟩;rw[show Gw []= [] by simp[Gw]];exact Aq _ _ _ _
 ·injection hv with e1 e2 e3;subst e1 e3;obtain⟨g',G,hA,M,z,y,J,i,hH⟩:=Lib.holds_of_ownsRow (enc:=encStr) (zs:=ss) h mY;injection hA with hA1 hA2 hA3;injection hA1 with hA1;injection hA1 with hA1;subst hA1 hA3;have hD:=Tryz.slices_Sort_string g 0 c ss w hH z kR;rw[i]at hD;refine hD.mono ?_;rintro e w' ⟨rfl,nn,os,rfl⟩;have E:(Gw ss).length=ss.length:=List.length_mergeSort ss;subst i;exact⟨rfl,ownsRow_sorted (n:=nn) (os:=os) (ts:=Gw ss) E j hb h1 h2 h3,grownBy_sorted _⟩
theorem Zx{w:World}{base n c:Nat}{A:Option Addr}{ss:List Str}(h:w.ownsRow base 9 1 (.slice A n c) n (AD ss))(hn:n<=1000000):
 Calls Tryz.prog 182 #[.slice A n c] w fun e w'=>e= .returned (.slice A (Lib.compact ss).length c)/\w'.ownsRow base 9 1 (.slice A (Lib.compact ss).length c) (Lib.compact ss).length (AD (Lib.compact ss))/\∀a,Below base a w->Below base a w':=by
 rcases h.2 with ⟨hv,h0⟩|⟨g,J,cur,hv,i,hb,h1,h2,h3,h4⟩
 ·injection hv with e1 e2 e3;subst e1 e2 e3;have hs:ss= []:=by have:=h.1;simpa[AD]using this
  subst hs;refine(Tryz.slices_Compact_string_empty none 0 w).mono ?_;rintro e w' ⟨rfl,rfl⟩;exact⟨rfl,Aq _ _ _ _,fun a h=>h⟩
 ·injection hv with e1 e2 e3;subst e1 e3;obtain⟨g',z,hA,M,E,y,G,j,hH⟩:=Lib.holds_of_ownsRow (enc:=encStr) (zs:=ss) h mY;injection hA with hA1 hA2 hA3;injection hA1 with hA1;injection hA1 with hA1;subst hA1 hA3;have hD:=Tryz.slices_Compact_string g 0 c ss w hH kR kR;rw[j]at hD;refine hD.mono ?_;rintro e w' ⟨rfl,q,rfl⟩;have L:=Lib.compact_length_le ss;have hc:=Lib.ownsRow_putRow (enc:=encStr) (q:=q) (k:=(Lib.compact ss).length) (ys:=Lib.compact ss++List.replicate (n-(Lib.compact ss).length) []) h ni kR;rw[List.take_left]at hc;exact⟨rfl,hc,fun a h=>Lib.below_putRow h i⟩
def Ie(ts:List Str)(w:World)(e:Ending)(w':World):Prop:=
 ∃v,e= .returned v/\w'.ownsRow w 9 1 v ts.length (AD ts)/\aO w w'
theorem Mn:∀ (l row:List UInt8),(split row l).length<=row.length+l.length
 | [],row=>by rw[split];have:=K8 row;simpa using this
 |c :: t,row=>by
  rw[split];split
  ·have:=Mn t (row++ [Ej c]);simp at this ⊢;omega
  ·have h1:=Mn t [];have h2:=K8 row;rw[Aj,Bu];simp at h1;omega
theorem JK(l:List UInt8):(words l).length<=l.length:=by have:=Mn l [];simpa[words]using this
set_option maxHeartbeats 1000000 in
set_option maxRecDepth 100000 in
theorem UQ(w:World)(tm lv:Int)(so tx:ByteArray)(hs:so.size<=50000)(ht:tx.size<=50000):
 Calls Tryz.prog 106 #[.agg #[.int .u64 tm, .int .u8 lv, .string so, .string tx]] w (Ie (FX tx.data.toList so.data.toList) w):=by
 have D1:Hid (∀ (B:Nat) (a wx:World) (bo:Nat),Below B a wx->B<=a.heap.size->Blk wx bo 50 #[()]->B<=bo->Calls Tryz.prog 178 #[.string tx,FW bo] wx (IS idS [] tx B a bo)):=fun B a wx bo hb ha ho hl=>T9 B a wx bo tx [] (.slice none 0 0) kR mY ht hb ha ho (Aq _ _ _ _) hl;have D2:Hid (∀ (B:Nat) (a wx:World) (bo:Nat) (ws0:List Str) (v0:Value),ws0.length<=50000->Below B a wx->B<=a.heap.size->Blk wx bo 50 #[v0]->wx.ownsRow B 9 1 v0 ws0.length (AD ws0)->B<=bo->Calls Tryz.prog 178 #[.string so,FV bo] wx (IS atS ws0 so B a bo)):=fun B a wx bo ws0 v0 h0 hb ha ho hw hl=>aM B a wx bo so ws0 v0 kR h0 hs hb ha ho hw hl;have hT:He tx.data.toList so.data.toList=(words tx.data.toList).map idS++(words so.data.toList).map atS:=by unfold He;rw[show(words tx.data.toList).map idS=words tx.data.toList from List.map_id' _];rfl
 have ax:((words tx.data.toList).map idS).length<=50000:=by have:=JK tx.data.toList;have h2:=Lib.size_eq tx;rw[Cg];omega
 have ay:((words so.data.toList).map atS).length<=50000:=by have:=JK so.data.toList;have h2:=Lib.size_eq so;rw[Cg];omega
 have ai:FX tx.data.toList so.data.toList=Lib.compact (Gw ((words tx.data.toList).map idS++(words so.data.toList).map atS)):=by rw[ZO,<-hT];rfl
 unfold Ie;rw[ai];unfold IS at D1 D2;clear hT ai hs ht;generalize (words tx.data.toList).map idS=W1 at *;generalize (words so.data.toList).map atS=W2 at *;unfold FW at D1;unfold FV at D2;obtain⟨WS,Y⟩:=iS (W1++W2);rw[<-Y];have av:=hid Y;clear Y;go_enter Tryz.func106,Tryz.ntmps106;go_wp2_with fail;have am:aO w (w.alloc (.cells #[.int .u64 tm, .int .u8 lv, .string so, .string tx] 43)):=bZ (Ag _ _);have ab:Blk (w.alloc (.cells #[.int .u64 tm, .int .u8 lv, .string so, .string tx] 43)) w 43 #[.int .u64 tm, .int .u8 lv, .string so, .string tx]:=Blk.made _ _ _;have ae:(w.alloc (.cells #[.int .u64 tm, .int .u8 lv, .string so, .string tx] 43)).heap.size=w.heap.size+1:=mY
 generalize w.alloc (.cells #[.int .u64 tm, .int .u8 lv, .string so, .string tx] 43)=wa at *;have j:aO wa (wa.alloc (.cells #[()] 50)):=bZ (Ag _ _);have ak:Blk (wa.alloc (.cells #[()] 50)) wa 50 #[()]:=Blk.made _ _ _;rw[<-ae];have E1:=hid (D1.out wa wa _ wa j (Ai _) ak (Ai _));have au:=hid am;have ag:=hid ab;clear D1 j ak am ab ae;obtain⟨B,hB⟩:=iS wa.heap.size;have ac:B<=wa.heap.size:=kR
 rw[<-hB]at E1 ⊢;have U:Hid (w.heap.size<B):=by show _<_;rw[hB];exact ag.out.lt
 have az:=hid hB;clear hB;refine E1.out.mono ?_;rintro e w1 ⟨rfl,j,v1,z,Q⟩;have aw:Hid (w1.ownsRow B 9 1 v1 W1.length (AD W1)):=Q;have Z:=hid z;have af:=hid j;have E2:=hid (D2.out B wa w1 B W1 v1 ax j ac z Q (Ai _));have c2:w1.cell? ⟨w,2,none⟩=some (.string so):=(af.out.cell (p:=⟨w,2,none⟩) U.out).trans (ag.out.cell 2);clear E1 D2 j z Q;go_wp2_with fail;refine E2.out.mono ?_;rintro e w2 ⟨rfl,ah,v2,h,E⟩;obtain⟨A2,c3,rfl⟩:=aZ E;have k0:=h.iO 0;have G:(W1++W2).length<=1000000:=by rw[Aj];omega
 rw[<-av.out]at G k0 h E;have E3:=hid (Uh E G);have i:=hid h;have N:=hid ah;have J:=hid E;obtain⟨n,hn⟩:=iS WS.length;rw[<-hn]at k0 E3 J G i;have HN:=hid hn;clear E2 c2 ah h E aw Z af hn;go_wp2_with fail;refine E3.out.mono ?_;rintro e w3 ⟨rfl,aj,M⟩;have L:=i.out.grown M (fun e=>fZ J.out i.out iX e.symm);have k3:=L.iO 0;have ar:Hid (Below B wa w3):=N.out.grown M (AY ac N.out.size) (fun y hy=>(Ae J.out y hy).1);have E4:=hid (Zx aj G);clear E3 aj M L k0 N J i;go_wp2_with fail;refine E4.out.mono ?_;rintro e w4 ⟨rfl,aa,al⟩;have aq:Hid (aO w w4):=au.out.trans ((al wa ar.out).mono (Nat.le_of_lt U.out));have an:=hid (iZ aa (Nat.le_of_lt U.out));clear E4 aa al;go_wp2_with fail;go_ret;exact⟨_,rfl,an.out,aq.out⟩
end Go.Proofs.YtfgdoknipbpfhaaGreatDoor.Idx
namespace Go.Proofs.YtfgdoknipbpfhaaGreatDoor.Toks
open Go.RowKit Mem
theorem RC(t:Tk)(w:World):
 Calls Tryz.prog 312 #[t.val] w fun e w'=>e= .returned (.bool (BS t.lit t.len t.dist))/\aO w w':=by
 obtain⟨lit,len,dist⟩:=t;unfold Tk.val;go_enter Tryz.func312,Tryz.ntmps312
 go_wp2
 all_goals
  go_ret;refine⟨El ?_,(Ag _ _).alloc (Ai _) _⟩;go_light
  first|(simp_all[BS];done)|(simp_all[BS];omega)|(subst_vars;simp_all[BS];rw[I9];simp)
theorem Po(t:Tk)(w:World):
 Calls Tryz.prog 255 #[t.val] w fun e w'=>e= .returned (.bool (BS t.lit t.len t.dist))/\aO w w':=by
 obtain⟨lit,len,dist⟩:=t;unfold Tk.val;go_enter Tryz.func255,Tryz.ntmps255
 go_wp2
 all_goals
  go_ret;refine⟨El ?_,(Ag _ _).alloc (Ai _) _⟩;go_light
  first|(simp_all[BS];done)|(simp_all[BS];omega)|(subst_vars;simp_all[BS];rw[I9];simp)
theorem VH{a b:Int}(h1:a=b):Ending.returned (.int .i64 a)= .returned (.int .i64 b):=by rw[h1]
theorem PI(b:Int)(w:World)(h1:0<=b)(h2:b<=60):
 Calls Tryz.prog 308 #[b] w fun e w'=>e= .returned (.int .i64 (pw b))/\w=w':=by
 go_enter Tryz.func308,Tryz.ntmps308
 go_wp2
 go_loop [3,4] (fun p i=>∃ (k:Nat) (P:Int),(k:Int)<=b/\1<=P/\P<=1152921504606846976/\P=pw k/\i= .int .i64 k/\p= .int .i64 P) (fun _ i=>(b-intOf i).toNat)
 case atStart=>exact⟨0,1,kR,kR,kR,iX,rfl,rfl⟩
 case round=>
  obtain⟨k,P,hk,y,j,hP,rfl,rfl⟩:=hrel;have HP:=hid hP;clear hP;by_cases h:(k:Int)<b
  ·go_wp2
   go_round
   case rel=>have hs:=Wr k kR;have hm:=NS (k+1) 60 kR;rw[show pw 60=1152921504606846976 from by decide]at hm;exact⟨k+1,2*P,kR,kR,by rw[HP.out];omega,by rw[HP.out,<-hs];rfl,jx,rfl⟩
   case measure=>exact nw
  ·go_wp2
   go_ret;go_light;exact⟨VH (by rw[HP.out,show(k:Int)=b from by omega]),rfl⟩
theorem NI(b:Int)(h2:b<=60):wrap64 (2 ^ b.toNat)=pw b/\pw b<=1152921504606846976:=by
 have hm:=NS b 60 h2;rw[show pw 60=1152921504606846976 from by decide]at hm;have hp:=Si b;have e:(2:Int) ^ b.toNat=pw b:=by unfold pw;simp
 rw[e];exact⟨I8 _ ⟨kR,kR⟩,hm⟩
theorem XF(x b:Int)(w:World)(h1:0<=b)(h2:b<=60):
 Calls Tryz.prog 375 #[x,b] w fun e w'=>e= .returned (.bool (decide (0<=x/\x<pw b)))/\w=w':=by
 obtain⟨hw,_⟩:=NI b h2;have HW:=hid hw;clear hw;go_enter Tryz.func375,Tryz.ntmps375
 go_wp2
 all_goals
  go_ret;go_light;refine⟨El ?_,rfl⟩
  first|(rw[HW.out];simp;omega)|(simp;omega)
theorem Xr(v:Int)(h:1<=v)(h2:v<=4611686018427387903):((Lib.bitLen v.toNat:Nat):Int)=lg v+1:=by
 unfold lg Lib.bitLen
 have i:∀ (f n:Nat),1<=n->n<2 ^ f->Lib.bitLenAux f n=Nat.log2 n+1:=by
  intro f
  induction f with
  |zero=>intro n h1 h2;simp at h2;omega
  |succ f ih=>
   intro n h1 h2;rw[Lib.bitLenAux,Aa kR];rw[Nat.log2_def];by_cases hn:2<=n
   ·rw[Ab hn,ih (n / 2) kR (by rw[ER]at h2;omega)];omega
   ·have:n=1:=kR;subst this;simp;cases f<;>simp[Lib.bitLenAux]
 rw[i 64 v.toNat kR kR];omega
theorem T1(v:Int)(w:World)(h1:1<=v)(h2:v<=4611686018427387903):
 Calls Tryz.prog 233 #[.int .u64 v] w fun e w'=>e= .returned (.int .i64 (lg v+1))/\w=w':=
 (Tryz.bits_Len v w kR kR).mono fun e w' ⟨he,hw⟩=>⟨by rw[he,Xr v h1 h2],hw.symm⟩
theorem Pc.val_mk(a b c d:Int):Pc.val ⟨a,b,c,d⟩= .agg #[a,b,c,d]:=rfl
theorem Tk.val_mk(a b c:Int):Tk.val ⟨a,b,c⟩= .agg #[.int .u8 a,b,c]:=rfl
end Go.Proofs.YtfgdoknipbpfhaaGreatDoor.Toks
