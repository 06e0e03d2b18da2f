/- A record's terms: so -/
import Derived.Test.YtfgdoknipbpfhaaGreatDoorZBodyBlocks23
import Derived.Test.YtfgdoknipbpfhaaGreatDoorZBodyBlocks12
import Derived.Sort.OwnSorted
import Derived.Sort.Grow
import Derived.Lib.OwnBridge
import Derived.Lib.SlicesCompact
namespace Go.Proofs.YtfgdoknipbpfhaaGreatDoor
open Go.Proofs.Tryz
open Go.Lib (hid)
variable{w:World}{base c n:Nat}{A:Option Addr}
namespace Idx
open Go.RowKit Mem Own Canon Sift Go.Sort
theorem fR{zs:List Str}{u:Str}:u∈Lib.compact zs↔u∈zs:=by
 unfold Lib.compact Lib.compactUpTo;rw[Ck];constructor
 ·rintro⟨i,hi,rfl⟩;have hi:=(List.mem_filter.1 hi).1;rw[Fs]at hi;rw[getElem!_pos zs.toArray i (by simpa using hi)];simp
 ·intro hu;obtain⟨j,hj,rfl⟩:=List.getElem_of_mem hu;clear hu
  induction j with
  |zero=>exact⟨0,List.mem_filter.2 ⟨Fs.2 hj,by simp[Lib.keeps]⟩,by rw[getElem!_pos zs.toArray 0 (by simpa using hj)];simp⟩
  |succ j ih=>
   have e1:zs.toArray[j+1]! =zs[j+1]:=(by rw[getElem!_pos zs.toArray (j+1) (by simpa using hj)];simp);have e0:zs.toArray[j]! =zs[j]:=(by rw[getElem!_pos zs.toArray j oT];simp);by_cases h:zs[j+1]=zs[j]
   ·obtain⟨i,h1,h2⟩:=ih mw;exact⟨i,h1,h2.trans h.symm⟩
   ·refine⟨j+1,List.mem_filter.2 ⟨Fs.2 hj,?_⟩,e1⟩;unfold Lib.keeps;rw[decide_eq_true_eq]
    right
    rw[Nat.add_sub_cancel,e1,e0];exact h
theorem eX{zs:List Str}(h:zs.Pairwise (·<= ·)):EJ (Lib.compact zs):=by
 have hp:=List.pairwise_iff_getElem.1 h;unfold EJ Lib.compact Lib.compactUpTo;rw[List.pairwise_map];refine List.Pairwise.imp_of_mem (R:=(·< ·)) ?_ (List.Pairwise.filter _ List.pairwise_lt_range);intro i j hi hj M;obtain⟨y,z⟩:=List.mem_filter.1 hj;rw[Fs]at y;have e0:zs.toArray[i]! =zs[i]:=by rw[getElem!_pos zs.toArray i oT];simp
 have e1:zs.toArray[j]! =zs[j]:=by rw[getElem!_pos zs.toArray j (by simpa using y)];simp
 have e2:zs.toArray[j-1]! =zs[j-1]:=by rw[getElem!_pos zs.toArray (j-1) oT];simp
 unfold Lib.keeps at z;rw[decide_eq_true_eq,e1,e2]at z;have J:zs[j]≠zs[j-1]:=z.resolve_left mw;have L:=hp (j-1) j mw y mw;have E:zs[j-1]<zs[j]:=(KY zs[j-1] zs[j]).elim id fun k=>k.elim (fun k=>absurd k.symm J) (fun k=>absurd k L);rw[e0,e1];by_cases G:i=j-1
 ·subst G;exact E
 ·have h2:=hp i (j-1) mw mw mw;rcases KY zs[i] zs[j-1]with k|k|k
  ·exact L0 k E
  ·rw[k];exact E
  ·exact absurd k h2
def GN(l:List Str):List Str:=l.mergeSort fun x y=>decide (x<=y)
theorem Ql(l:List Str):(GN l).Pairwise (·<= ·):=by
 have h:=List.pairwise_mergeSort (le:=fun(x y:Str)=>decide (x<=y)) (fun a b c h1 h2=>by
  simp only[decide_eq_true_eq]at h1 h2 ⊢;exact List.le_trans h1 h2) (fun a b=>by
  simp only[Bool.or_eq_true,decide_eq_true_eq];exact List.le_total a b) l
 exact h.imp fun h=>of_decide_eq_true h
theorem UG{l:List Str}{u:Str}:u∈GN l↔u∈l:=List.mem_mergeSort
theorem eM(l:List Str):Lib.compact (GN l)=Et [] l:=
 NU (eX (Ql l)) (LA l List.Pairwise.nil) fun s=>by rw[fR,UG,Ni];simp
theorem iS(l:List Str):l.map encStr=Ba l:=rfl
theorem g7{ss:List Str}(h:w.ownsRow base 9 1 (.slice A n c) n (Ba ss))(hn:n<=1000000):
 Calls prog 181 #[.slice A n c] w fun e w'=>e= .returned (.tuple #[])/\w'.ownsRow base 9 1 (.slice A n c) n (Ba (GN ss))/\w.grownBy w' (Value.slice A n c).ownBlock:=by
 rcases h.2 with ⟨hv,h0⟩|⟨g,M,cur,hv,j,hb,h1,h2,h3,h4⟩
 ·injection hv with e1 e2 e3;subst e1 e2 e3;have hs:ss= []:=by have:=h.1;simpa[Ba]using this
  subst hs;refine(Tryz.slices_Sort_string_none none 0 w).mono ?_;rintro e w' ⟨rfl,rfl⟩;refine⟨rfl,?_,World.grownBy.refl _ _⟩;rw[show GN []= [] by simp[GN]];exact AI _ _ _ _
 ·injection hv with e1 e2 e3;subst e1 e3;obtain⟨g',G,hA,J,E,z,L,i,hH⟩:=Lib.holds_of_ownsRow (enc:=encStr) (zs:=ss) h oK;injection hA with hA1 hA2 hA3;injection hA1 with hA1;injection hA1 with hA1;subst hA1 hA3;have hD:=Tryz.slices_Sort_string g 0 c ss w hH E mw;rw[i]at hD;refine hD.mono ?_;rintro e w' ⟨rfl,nn,os,rfl⟩;have y:(GN ss).length=ss.length:=List.length_mergeSort ss;subst i;exact⟨rfl,ownsRow_sorted (n:=nn) (os:=os) (ts:=GN ss) y j hb h1 h2 h3,grownBy_sorted _⟩
theorem dL{ss:List Str}(h:w.ownsRow base 9 1 (.slice A n c) n (Ba ss))(hn:n<=1000000):
 Calls prog 182 #[.slice A n c] w fun e w'=>e= .returned (.slice A (Lib.compact ss).length c)/\w'.ownsRow base 9 1 (.slice A (Lib.compact ss).length c) (Lib.compact ss).length (Ba (Lib.compact ss))/\∀a,Below base a w->Below base a w':=by
 rcases h.2 with ⟨hv,h0⟩|⟨g,J,cur,hv,i,hb,h1,h2,h3,h4⟩
 ·injection hv with e1 e2 e3;subst e1 e2 e3;have hs:ss= []:=by have:=h.1;simpa[Ba]using this
  subst hs;refine(Tryz.slices_Compact_string_empty none 0 w).mono ?_;rintro e w' ⟨rfl,rfl⟩;exact⟨rfl,AI _ _ _ _,fun a h=>h⟩
 ·injection hv with e1 e2 e3;subst e1 e3;obtain⟨g',z,hA,E,M,y,G,j,hH⟩:=Lib.holds_of_ownsRow (enc:=encStr) (zs:=ss) h oK;injection hA with hA1 hA2 hA3;injection hA1 with hA1;injection hA1 with hA1;subst hA1 hA3;have hD:=Tryz.slices_Compact_string g 0 c ss w hH mw mw;rw[j]at hD;refine hD.mono ?_;rintro e w' ⟨rfl,q,rfl⟩;have L:=Lib.compact_length_le ss;have hc:=Lib.ownsRow_putRow (enc:=encStr) (q:=q) (k:=(Lib.compact ss).length) (ys:=Lib.compact ss++List.replicate (n-(Lib.compact ss).length) []) h oT mw;rw[List.take_left]at hc;exact⟨rfl,hc,fun a h=>Lib.below_putRow h i⟩
def LV(ts:List Str)(w:World)(e:Ending)(w':World):Prop:=
 ∃v,e= .returned v/\w'.ownsRow w 9 1 v ts.length (Ba ts)/\Below w w w'
theorem NN:∀ (l row:List UInt8),(split row l).length<=row.length+l.length
 | [],row=>by rw[split];have:=Ml row;simpa using this
 |c :: t,row=>by
  rw[split];split
  ·have:=NN t (row++ [Gz c]);simp at this ⊢;omega
  ·have h1:=NN t [];have h2:=Ml row;rw[Ae,AD];simp at h1;omega
theorem LP(l:List UInt8):(words l).length<=l.length:=by have:=NN l [];simpa[words]using this
set_option maxHeartbeats 1000000 in
set_option maxRecDepth 100000 in
theorem l6(w:World)(tm lv:Int)(so tx:ByteArray)(hs:so.size<=50000)(ht:tx.size<=50000):
 Calls prog 106 #[.agg #[.int .u64 tm, .int .u8 lv, .string so, .string tx]] w (LV (G9 tx.data.toList so.data.toList) w):=by
 have D1:Hid (∀ (B:Nat) (a wx:World) (bo:Nat),Below B a wx->B<=a.heap.size->Blk wx bo 50 #[()]->B<=bo->Calls prog 178 #[.string tx,Gh bo] wx (Ji idS [] tx B a bo)):=fun B a wx bo hb ha ho hl=>i8 B a wx bo tx [] (.slice none 0 0) mw oK ht hb ha ho (AI _ _ _ _) hl;have D2:Hid (∀ (B:Nat) (a wx:World) (bo:Nat) (ws0:List Str) (v0:Value),ws0.length<=50000->Below B a wx->B<=a.heap.size->Blk wx bo 50 #[v0]->wx.ownsRow B 9 1 v0 ws0.length (Ba ws0)->B<=bo->Calls prog 178 #[.string so,Gg bo] wx (Ji atS ws0 so B a bo)):=fun B a wx bo ws0 v0 h0 hb ha ho hw hl=>gQ B a wx bo so ws0 v0 mw h0 hs hb ha ho hw hl;have hT:G1 tx.data.toList so.data.toList=(words tx.data.toList).map idS++(words so.data.toList).map atS:=by unfold G1;rw[show(words tx.data.toList).map idS=words tx.data.toList from List.map_id' _];rfl
 have aq:((words tx.data.toList).map idS).length<=50000:=by have:=LP tx.data.toList;have h2:=Lib.size_eq tx;rw[Bb];omega
 have ay:((words so.data.toList).map atS).length<=50000:=by have:=LP so.data.toList;have h2:=Lib.size_eq so;rw[Bb];omega
 have ab:G9 tx.data.toList so.data.toList=Lib.compact (GN ((words tx.data.toList).map idS++(words so.data.toList).map atS)):=by rw[eM,<-hT];rfl
 unfold LV;rw[ab];unfold Ji at D1 D2;clear hT ab hs ht;generalize (words tx.data.toList).map idS=W1 at *;generalize (words so.data.toList).map atS=W2 at *;unfold Gh at D1;unfold Gg at D2;obtain⟨WS,N⟩:=ii (W1++W2);rw[<-N];have an:=hid N;clear N;go_enter func106,ntmps106;go_wp2_with fail;have am:Below w w (w.alloc (.cells #[.int .u64 tm, .int .u8 lv, .string so, .string tx] 43)):=aZ (Ag _ _);have ah:Blk (w.alloc (.cells #[.int .u64 tm, .int .u8 lv, .string so, .string tx] 43)) w 43 #[.int .u64 tm, .int .u8 lv, .string so, .string tx]:=Blk.made _ _ _;have aj:(w.alloc (.cells #[.int .u64 tm, .int .u8 lv, .string so, .string tx] 43)).heap.size=w.heap.size+1:=oK
 generalize w.alloc (.cells #[.int .u64 tm, .int .u8 lv, .string so, .string tx] 43)=wa at *;have j:Below wa wa (wa.alloc (.cells #[()] 50)):=aZ (Ag _ _);have al:Blk (wa.alloc (.cells #[()] 50)) wa 50 #[()]:=Blk.made _ _ _;rw[<-aj];have E1:=hid (D1.out wa wa _ wa j (Ak _) al (Ak _));have av:=hid am;have ac:=hid ah;clear D1 j al am ah aj;obtain⟨B,hB⟩:=ii wa.heap.size;have Z:B<=wa.heap.size:=mw
 rw[<-hB]at E1 ⊢;have U:Hid (w.heap.size<B):=by show _<_;rw[hB];exact ac.out.lt
 have az:=hid hB;clear hB;refine E1.out.mono ?_;rintro e w1 ⟨rfl,j,v1,z,Q⟩;have au:Hid (w1.ownsRow B 9 1 v1 W1.length (Ba W1)):=Q;have ae:=hid z;have ag:=hid j;have E2:=hid (D2.out B wa w1 B W1 v1 aq j Z z Q (Ak _));have c2:w1.cell? ⟨w,2,none⟩=some (.string so):=(ag.out.cell (p:=⟨w,2,none⟩) U.out).trans (ac.out.cell 2);clear E1 D2 j z Q;go_wp2_with fail;refine E2.out.mono ?_;rintro e w2 ⟨rfl,ak,v2,i,E⟩;obtain⟨A2,c3,rfl⟩:=bZ E;have k0:=i.ia 0;have J:(W1++W2).length<=1000000:=mW
 rw[<-an.out]at J k0 i E;have E3:=hid (g7 E J);have h:=hid i;have M:=hid ak;have G:=hid E;obtain⟨n,hn⟩:=ii WS.length;rw[<-hn]at k0 E3 G J h;have HN:=hid hn;clear E2 c2 ak i E au ae ag hn;go_wp2_with fail;refine E3.out.mono ?_;rintro e w3 ⟨rfl,af,Y⟩;have L:=h.out.grown Y (fun e=>gZ G.out h.out ip e.symm);have k3:=L.ia 0;have ar:Hid (Below B wa w3):=M.out.grown Y (AK Z M.out.size) (fun y hy=>(Aj G.out y hy).1);have E4:=hid (dL af J);clear E3 af Y L k0 M G h;go_wp2_with fail;refine E4.out.mono ?_;rintro e w4 ⟨rfl,aa,ai⟩;have ax:Hid (Below w w w4):=av.out.trans ((ai wa ar.out).mono (Nat.le_of_lt U.out));have aw:=hid (kZ aa (Nat.le_of_lt U.out));clear E4 aa ai;go_wp2_with fail;go_ret;exact⟨_,rfl,aw.out,ax.out⟩
end Idx
namespace Idx
open Go.RowKit Mem Own Canon Sift
open Crc (Fy)
section
variable {w:World} {base n c s:Nat} {e:TypeId} {A:Option Addr} {xs:List Value}
theorem gD(h:w.ownsRow base e 1 (.slice A n c) n xs):n<=c/\∀a,A=some a->a.add 0=a:=by
 rcases h.2 with ⟨hv,h0⟩|⟨g,i,cur,hv,_,_,hc,_⟩
 ·injection hv with e1 e2 e3;subst e1 e2 e3;exact⟨Ak _,fun a ha=>by cases ha⟩
 ·injection hv with e1 e2 e3;subst e1 e3;exact⟨hc,fun a ha=>by injection ha with ha;subst ha;exact Mem.add_none _ _ _⟩
end
theorem fD(l:List Str):∀u∈Ba l,u.oneCell'=true:=by intro u hu;obtain⟨x,_,rfl⟩:=Ck.1 hu;rfl
theorem LH{l:List Str}{i:Nat}{x:Str}(h:l[i]? =some x):(Ba l)[i]? =some (.string (bs x)):=by simp[Ba,h]
theorem OG(a b:List Str):Ba (a++b)=Ba a++Ba b:=by simp[Ba]
theorem dW(a:List Str):(Ba a).length=a.length:=by simp[Ba]
theorem eR(x s:Str):Op.bytesLess (bs x).toList (bs s).toList=decide (x<s):=by rw[Gy,Gy,Hm,Hm,bytesLess_eq]
theorem str_eq(x s:Str):((bs x).toList==(bs s).toList)=decide (x=s):=by rw[Gy,Gy,Hm,Hm];exact Ll.2 oK
end Idx
namespace Idx
open Go.RowKit Mem Own Canon Sift
theorem Qa(s:Str):∀l,(EV l s).length<=l.length+1
 | []=>by simp[EV]
 |x :: t=>by
  have:=Qa s t;rw[EV];split
  ·simp only[List.length_cons];omega
  ·split<;>simp
theorem NJ:∀ (l h:List Str),(Et h l).length<=h.length+l.length
 | [],h=>by simp[Et]
 |x :: t,h=>by have h1:=NJ t (EV h x);have h2:=Qa x h;unfold Et at h1 ⊢;rw[List.foldl_cons,AD];omega
theorem Kr:∀ (l row:List UInt8),∀x∈split row l,1<=x.length/\x.length<=24
 | [],row,x,hx=>by
  rw[split]at hx;unfold tell at hx;split at hx
  ·cases hx
  ·rename_i h;have:=Fv.2 h;obtain rfl:x=row.take 24:=by simpa using hx
   rw[AZ];omega
 |c :: t,row,x,hx=>by
  rw[split]at hx;split at hx
  ·exact Kr t _ x hx
  ·rcases BF.1 hx with hx|hx
   ·exact Kr [] row x (by rw[split];exact hx)
   ·exact Kr t [] x hx
theorem Va(l:List UInt8):∀x∈words l,1<=x.length/\x.length<=24:=Kr l []
end Idx
namespace Idx
open Go.RowKit Mem Own Canon Sift
def GE(ls:List Str)(i _j:Nat):Value:= .string (bs (ls.getD i []))
theorem cU(l:List Str)(i j:Nat)(hi:i<l.length)(hj:j<1):(Ba l)[i*1+j]? =some (GE l i j):=by
 obtain rfl:j=0:=mw
 rw[CM,Bf];unfold GE;rw[Am,Az hi];exact LH (Az hi)
theorem bJ{l:List Str}(h:w.ownsRow base 9 1 (.slice A n c) n (Ba l)):Row w w A n 1 (GE l):=
 Row.of_own h rfl fun i j hi hj=>cU l i j (by have:=h.1;rw[dW]at this;omega) hj
theorem Row.str{B:Nat}{l:List Str}(h:Row w B A n 1 (GE l))(hn:l.length=n){k:Nat}(hk:k<n):
 ∃b i x,A=some ⟨b,i,none⟩/\b<B/\l[k]? =some x/\w.cell? ⟨b,i+k,none⟩=some (.string (bs x)):=by
 obtain⟨b,i,rfl,hb,hc⟩:=h mw;have c0:=hc k 0 hk mw;rw[CM,Bf]at c0;unfold GE at c0;rw[Am,Az (show k<l.length by omega)]at c0;exact⟨b,i,_,rfl,hb,Az mw,c0⟩
end Idx
end Go.Proofs.YtfgdoknipbpfhaaGreatDoor
