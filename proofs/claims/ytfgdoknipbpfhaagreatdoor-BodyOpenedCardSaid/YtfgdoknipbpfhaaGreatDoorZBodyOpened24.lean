/- A record's terms: so -/
import Derived.Test.YtfgdoknipbpfhaaGreatDoorZBodyOpened23
import Derived.Test.YtfgdoknipbpfhaaGreatDoorZBodyOpened12
import Derived.Sort.OwnSorted
import Derived.Sort.Grow
import Derived.Lib.OwnBridge
import Derived.Lib.SlicesCompact
namespace Go.Proofs.YtfgdoknipbpfhaaGreatDoor
open Go.Proofs.Tryz
open Go.Lib (hid)
variable{w:World}{base c n:Nat}{A:Option Addr}
namespace Idx
open Go.RowKit Mem Own Canon Sift Go.Sort
theorem nE{zs:List Str}{u:Str}:u∈Lib.compact zs↔u∈zs:=by
 unfold Lib.compact Lib.compactUpTo;rw[Cc];constructor
 ·rintro⟨i,hi,rfl⟩;have hi:=(List.mem_filter.1 hi).1;rw[Fm]at hi;rw[getElem!_pos zs.toArray i (by simpa using hi)];simp
 ·intro hu;obtain⟨j,hj,rfl⟩:=List.getElem_of_mem hu;clear hu
  induction j with
  |zero=>exact⟨0,List.mem_filter.2 ⟨Fm.2 hj,by simp[Lib.keeps]⟩,by rw[getElem!_pos zs.toArray 0 (by simpa using hj)];simp⟩
  |succ j ih=>
   have e1:zs.toArray[j+1]! =zs[j+1]:=(by rw[getElem!_pos zs.toArray (j+1) (by simpa using hj)];simp);have e0:zs.toArray[j]! =zs[j]:=(by rw[getElem!_pos zs.toArray j pQ];simp);by_cases h:zs[j+1]=zs[j]
   ·obtain⟨i,h1,h2⟩:=ih mz;exact⟨i,h1,h2.trans h.symm⟩
   ·refine⟨j+1,List.mem_filter.2 ⟨Fm.2 hj,?_⟩,e1⟩;unfold Lib.keeps;rw[decide_eq_true_eq]
    right
    rw[Nat.add_sub_cancel,e1,e0];exact h
theorem YW{zs:List Str}(h:zs.Pairwise (·<= ·)):EV (Lib.compact zs):=by
 have hp:=List.pairwise_iff_getElem.1 h;unfold EV Lib.compact Lib.compactUpTo;rw[List.pairwise_map];refine List.Pairwise.imp_of_mem (R:=(·< ·)) ?_ (List.Pairwise.filter _ List.pairwise_lt_range);intro i j hi hj N;obtain⟨z,E⟩:=List.mem_filter.1 hj;rw[Fm]at z;have e0:zs.toArray[i]! =zs[i]:=by rw[getElem!_pos zs.toArray i pQ];simp
 have e1:zs.toArray[j]! =zs[j]:=by rw[getElem!_pos zs.toArray j (by simpa using z)];simp
 have e2:zs.toArray[j-1]! =zs[j-1]:=by rw[getElem!_pos zs.toArray (j-1) pQ];simp
 unfold Lib.keeps at E;rw[decide_eq_true_eq,e1,e2]at E;have M:zs[j]≠zs[j-1]:=E.resolve_left mz;have G:=hp (j-1) j mz z mz;have y:zs[j-1]<zs[j]:=(K8 zs[j-1] zs[j]).elim id fun k=>k.elim (fun k=>absurd k.symm M) (fun k=>absurd k G);rw[e0,e1];by_cases J:i=j-1
 ·subst J;exact y
 ·have h2:=hp i (j-1) mz mz mz;rcases K8 zs[i] zs[j-1]with k|k|k
  ·exact LP k y
  ·rw[k];exact y
  ·exact absurd k h2
def GS(l:List Str):List Str:=l.mergeSort fun x y=>decide (x<=y)
theorem Tc(l:List Str):(GS l).Pairwise (·<= ·):=by
 have h:=List.pairwise_mergeSort (le:=fun(x y:Str)=>decide (x<=y)) (fun a b c h1 h2=>by
  simp only[decide_eq_true_eq]at h1 h2 ⊢;exact List.le_trans h1 h2) (fun a b=>by
  simp only[Bool.or_eq_true,decide_eq_true_eq];exact List.le_total a b) l
 exact h.imp fun h=>of_decide_eq_true h
theorem TF{l:List Str}{u:Str}:u∈GS l↔u∈l:=List.mem_mergeSort
theorem mI(l:List Str):Lib.compact (GS l)=EB [] l:=
 Qf (YW (Tc l)) (Nk l List.Pairwise.nil) fun s=>by rw[nE,TF,MR];simp
theorem Wm(l:List Str):l.map encStr=Bh l:=rfl
theorem VZ{ss:List Str}(h:w.ownsRow base 9 1 (.slice A n c) n (Bh ss))(hn:n<=1000000):
 Calls prog 181 #[.slice A n c] w fun e w'=>e= .returned (.tuple #[])/\w'.ownsRow base 9 1 (.slice A n c) n (Bh (GS ss))/\w.grownBy w' (Value.slice A n c).ownBlock:=by
 rcases h.2 with ⟨hv,h0⟩|⟨g,M,cur,hv,j,hb,h1,h2,h3,h4⟩
 ·injection hv with e1 e2 e3;subst e1 e2 e3;have hs:ss= []:=by have:=h.1;simpa[Bh]using this
  subst hs;refine(Tryz.slices_Sort_string_none none 0 w).mono ?_;rintro e w' ⟨rfl,rfl⟩;refine⟨rfl,?_,World.grownBy.refl _ _⟩;rw[show GS []= [] by simp[GS]];exact AK _ _ _ _
 ·injection hv with e1 e2 e3;subst e1 e3;obtain⟨g',G,hA,J,y,z,N,i,hH⟩:=Lib.holds_of_ownsRow (enc:=encStr) (zs:=ss) h pI;injection hA with hA1 hA2 hA3;injection hA1 with hA1;injection hA1 with hA1;subst hA1 hA3;have hD:=Tryz.slices_Sort_string g 0 c ss w hH y mz;rw[i]at hD;refine hD.mono ?_;rintro e w' ⟨rfl,nn,os,rfl⟩;have E:(GS ss).length=ss.length:=List.length_mergeSort ss;subst i;exact⟨rfl,ownsRow_sorted (n:=nn) (os:=os) (ts:=GS ss) E j hb h1 h2 h3,grownBy_sorted _⟩
theorem lK{ss:List Str}(h:w.ownsRow base 9 1 (.slice A n c) n (Bh ss))(hn:n<=1000000):
 Calls prog 182 #[.slice A n c] w fun e w'=>e= .returned (.slice A (Lib.compact ss).length c)/\w'.ownsRow base 9 1 (.slice A (Lib.compact ss).length c) (Lib.compact ss).length (Bh (Lib.compact ss))/\∀a,Below base a w->Below base a w':=by
 rcases h.2 with ⟨hv,h0⟩|⟨g,J,cur,hv,i,hb,h1,h2,h3,h4⟩
 ·injection hv with e1 e2 e3;subst e1 e2 e3;have hs:ss= []:=by have:=h.1;simpa[Bh]using this
  subst hs;refine(Tryz.slices_Compact_string_empty none 0 w).mono ?_;rintro e w' ⟨rfl,rfl⟩;exact⟨rfl,AK _ _ _ _,fun a h=>h⟩
 ·injection hv with e1 e2 e3;subst e1 e3;obtain⟨g',z,hA,E,G,y,M,j,hH⟩:=Lib.holds_of_ownsRow (enc:=encStr) (zs:=ss) h pI;injection hA with hA1 hA2 hA3;injection hA1 with hA1;injection hA1 with hA1;subst hA1 hA3;have hD:=Tryz.slices_Compact_string g 0 c ss w hH mz mz;rw[j]at hD;refine hD.mono ?_;rintro e w' ⟨rfl,q,rfl⟩;have N:=Lib.compact_length_le ss;have hc:=Lib.ownsRow_putRow (enc:=encStr) (q:=q) (k:=(Lib.compact ss).length) (ys:=Lib.compact ss++List.replicate (n-(Lib.compact ss).length) []) h pQ mz;rw[List.take_left]at hc;exact⟨rfl,hc,fun a h=>Lib.below_putRow h i⟩
def LL(ts:List Str)(w:World)(e:Ending)(w':World):Prop:=
 ∃v,e= .returned v/\w'.ownsRow w 9 1 v ts.length (Bh ts)/\Below w w w'
theorem Qa:∀ (l row:List UInt8),(split row l).length<=row.length+l.length
 | [],row=>by rw[split];have:=L5 row;simpa using this
 |c :: t,row=>by
  rw[split];split
  ·have:=Qa t (row++ [GV c]);simp at this ⊢;omega
  ·have h1:=Qa t [];have h2:=L5 row;rw[Aj,AI];simp at h1;omega
theorem LF(l:List UInt8):(words l).length<=l.length:=by have:=Qa l [];simpa[words]using this
set_option maxHeartbeats 1000000 in
set_option maxRecDepth 100000 in
theorem Xv(w:World)(tm lv:Int)(so tx:ByteArray)(hs:so.size<=50000)(ht:tx.size<=50000):
 Calls prog 106 #[.agg #[.int .u64 tm, .int .u8 lv, .string so, .string tx]] w (LL (Hi tx.data.toList so.data.toList) w):=by
 have D1:Hid (∀ (B:Nat) (a wx:World) (bo:Nat),Below B a wx->B<=a.heap.size->Blk wx bo 50 #[()]->B<=bo->Calls prog 178 #[.string tx,GB bo] wx (Jm idS [] tx B a bo)):=fun B a wx bo hb ha ho hl=>WU B a wx bo tx [] (.slice none 0 0) mz pI ht hb ha ho (AK _ _ _ _) hl;have D2:Hid (∀ (B:Nat) (a wx:World) (bo:Nat) (ws0:List Str) (v0:Value),ws0.length<=50000->Below B a wx->B<=a.heap.size->Blk wx bo 50 #[v0]->wx.ownsRow B 9 1 v0 ws0.length (Bh ws0)->B<=bo->Calls prog 178 #[.string so,GA bo] wx (Jm atS ws0 so B a bo)):=fun B a wx bo ws0 v0 h0 hb ha ho hw hl=>Wa B a wx bo so ws0 v0 mz h0 hs hb ha ho hw hl;have hT:Hb tx.data.toList so.data.toList=(words tx.data.toList).map idS++(words so.data.toList).map atS:=by unfold Hb;rw[show(words tx.data.toList).map idS=words tx.data.toList from List.map_id' _];rfl
 have av:((words tx.data.toList).map idS).length<=50000:=by have:=LF tx.data.toList;have h2:=Lib.size_eq tx;rw[Bc];omega
 have a0:((words so.data.toList).map atS).length<=50000:=by have:=LF so.data.toList;have h2:=Lib.size_eq so;rw[Bc];omega
 have ai:Hi tx.data.toList so.data.toList=Lib.compact (GS ((words tx.data.toList).map idS++(words so.data.toList).map atS)):=by rw[mI,<-hT];rfl
 unfold LL;rw[ai];unfold Jm at D1 D2;clear hT ai hs ht;generalize (words tx.data.toList).map idS=W1 at *;generalize (words so.data.toList).map atS=W2 at *;unfold GB at D1;unfold GA at D2;obtain⟨WS,Y⟩:=ii (W1++W2);rw[<-Y];have ax:=hid Y;clear Y;go_enter func106,ntmps106;go_wp2_with fail;have ab:Below w w (w.alloc (.cells #[.int .u64 tm, .int .u8 lv, .string so, .string tx] 43)):=aZ (Ag _ _);have ah:Blk (w.alloc (.cells #[.int .u64 tm, .int .u8 lv, .string so, .string tx] 43)) w 43 #[.int .u64 tm, .int .u8 lv, .string so, .string tx]:=Blk.made _ _ _;have ae:(w.alloc (.cells #[.int .u64 tm, .int .u8 lv, .string so, .string tx] 43)).heap.size=w.heap.size+1:=pI
 generalize w.alloc (.cells #[.int .u64 tm, .int .u8 lv, .string so, .string tx] 43)=wa at *;have j:Below wa wa (wa.alloc (.cells #[()] 50)):=aZ (Ag _ _);have an:Blk (wa.alloc (.cells #[()] 50)) wa 50 #[()]:=Blk.made _ _ _;rw[<-ae];have E1:=hid (D1.out wa wa _ wa j (Aq _) an (Aq _));have aq:=hid ab;have aj:=hid ah;clear D1 j an ab ah ae;obtain⟨B,hB⟩:=ii wa.heap.size;have al:B<=wa.heap.size:=mz
 rw[<-hB]at E1 ⊢;have U:Hid (w.heap.size<B):=by show _<_;rw[hB];exact aj.out.lt
 have az:=hid hB;clear hB;refine E1.out.mono ?_;rintro e w1 ⟨rfl,j,v1,z,N⟩;have aw:Hid (w1.ownsRow B 9 1 v1 W1.length (Bh W1)):=N;have am:=hid z;have ac:=hid j;have E2:=hid (D2.out B wa w1 B W1 v1 av j al z N (Aq _));have c2:w1.cell? ⟨w,2,none⟩=some (.string so):=(ac.out.cell (p:=⟨w,2,none⟩) U.out).trans (aj.out.cell 2);clear E1 D2 j z N;go_wp2_with fail;refine E2.out.mono ?_;rintro e w2 ⟨rfl,af,v2,i,E⟩;obtain⟨A2,c3,rfl⟩:=bZ E;have k0:=i.ia 0;have J:(W1++W2).length<=1000000:=nz
 rw[<-ax.out]at J k0 i E;have E3:=hid (VZ E J);have h:=hid i;have Z:=hid af;have G:=hid E;obtain⟨n,hn⟩:=ii WS.length;rw[<-hn]at k0 E3 G J h;have HN:=hid hn;clear E2 c2 af i E aw am ac hn;go_wp2_with fail;refine E3.out.mono ?_;rintro e w3 ⟨rfl,ak,Q⟩;have M:=h.out.grown Q (fun e=>gZ G.out h.out ip e.symm);have k3:=M.ia 0;have ay:Hid (Below B wa w3):=Z.out.grown Q (AN al Z.out.size) (fun y hy=>(Am G.out y hy).1);have E4:=hid (lK ak J);clear E3 ak Q M k0 Z G h;go_wp2_with fail;refine E4.out.mono ?_;rintro e w4 ⟨rfl,aa,ag⟩;have au:Hid (Below w w w4):=aq.out.trans ((ag wa ay.out).mono (Nat.le_of_lt U.out));have ar:=hid (kZ aa (Nat.le_of_lt U.out));clear E4 aa ag;go_wp2_with fail;go_ret;exact⟨_,rfl,ar.out,au.out⟩
end Idx
namespace Idx
open Go.RowKit Mem Own Canon Sift
open Crc (FG)
section
variable {w:World} {base n c s:Nat} {e:TypeId} {A:Option Addr} {xs:List Value}
theorem nR(h:w.ownsRow base e 1 (.slice A n c) n xs):n<=c/\∀a,A=some a->a.add 0=a:=by
 rcases h.2 with ⟨hv,h0⟩|⟨g,i,cur,hv,_,_,hc,_⟩
 ·injection hv with e1 e2 e3;subst e1 e2 e3;exact⟨Aq _,fun a ha=>by cases ha⟩
 ·injection hv with e1 e2 e3;subst e1 e3;exact⟨hc,fun a ha=>by injection ha with ha;subst ha;exact Mem.add_none _ _ _⟩
end
theorem mT(l:List Str):∀u∈Bh l,u.oneCell'=true:=by intro u hu;obtain⟨x,_,rfl⟩:=Cc.1 hu;rfl
theorem Ns{l:List Str}{i:Nat}{x:Str}(h:l[i]? =some x):(Bh l)[i]? =some (.string (bs x)):=by simp[Bh,h]
theorem N3(a b:List Str):Bh (a++b)=Bh a++Bh b:=by simp[Bh]
theorem lV(a:List Str):(Bh a).length=a.length:=by simp[Bh]
theorem mM(x s:Str):Op.bytesLess (bs x).toList (bs s).toList=decide (x<s):=by rw[GK,GK,Ht,Ht,bytesLess_eq]
theorem str_eq(x s:Str):((bs x).toList==(bs s).toList)=decide (x=s):=by rw[GK,GK,Ht,Ht];exact Kh.2 pI
end Idx
namespace Idx
open Go.RowKit Mem Own Canon Sift
theorem SN(s:Str):∀l,(Fc l s).length<=l.length+1
 | []=>by simp[Fc]
 |x :: t=>by
  have:=SN s t;rw[Fc];split
  ·simp only[List.length_cons];omega
  ·split<;>simp
theorem PY:∀ (l h:List Str),(EB h l).length<=h.length+l.length
 | [],h=>by simp[EB]
 |x :: t,h=>by have h1:=PY t (Fc h x);have h2:=SN x h;unfold EB at h1 ⊢;rw[List.foldl_cons,AI];omega
theorem Km:∀ (l row:List UInt8),∀x∈split row l,1<=x.length/\x.length<=24
 | [],row,x,hx=>by
  rw[split]at hx;unfold tell at hx;split at hx
  ·cases hx
  ·rename_i h;have:=FD.2 h;obtain rfl:x=row.take 24:=by simpa using hx
   rw[Bd];omega
 |c :: t,row,x,hx=>by
  rw[split]at hx;split at hx
  ·exact Km t _ x hx
  ·rcases BJ.1 hx with hx|hx
   ·exact Km [] row x (by rw[split];exact hx)
   ·exact Km t [] x hx
theorem Tx(l:List UInt8):∀x∈words l,1<=x.length/\x.length<=24:=Km l []
end Idx
namespace Idx
open Go.RowKit Mem Own Canon Sift
def Fu(ls:List Str)(i _j:Nat):Value:= .string (bs (ls.getD i []))
theorem kY(l:List Str)(i j:Nat)(hi:i<l.length)(hj:j<1):(Bh l)[i*1+j]? =some (Fu l i j):=by
 obtain rfl:j=0:=mz
 rw[CG,Bj];unfold Fu;rw[Ar,AD hi];exact Ns (AD hi)
theorem NT{l:List Str}(h:w.ownsRow base 9 1 (.slice A n c) n (Bh l)):Row w w A n 1 (Fu l):=
 Row.of_own h rfl fun i j hi hj=>kY l i j (by have:=h.1;rw[lV]at this;omega) hj
theorem Row.str{B:Nat}{l:List Str}(h:Row w B A n 1 (Fu l))(hn:l.length=n){k:Nat}(hk:k<n):
 ∃b i x,A=some ⟨b,i,none⟩/\b<B/\l[k]? =some x/\w.cell? ⟨b,i+k,none⟩=some (.string (bs x)):=by
 obtain⟨b,i,rfl,hb,hc⟩:=h mz;have c0:=hc k 0 hk mz;rw[CG,Bj]at c0;unfold Fu at c0;rw[Ar,AD (show k<l.length by omega)]at c0;exact⟨b,i,_,rfl,hb,AD mz,c0⟩
end Idx
end Go.Proofs.YtfgdoknipbpfhaaGreatDoor
