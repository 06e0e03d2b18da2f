/- A record's terms: so -/
import Derived.Test.YtfgdoknipbpfhaaGreatDoorZBodyBack25
import Derived.Test.YtfgdoknipbpfhaaGreatDoorZBodyBack12
import Derived.Sort.OwnSorted
import Derived.Sort.Grow
import Derived.Lib.OwnBridge
import Derived.Lib.SlicesCompact
namespace Go.Proofs.YtfgdoknipbpfhaaGreatDoor
open Go.Proofs.Tryz
open Go.Lib (hid)
set_option maxHeartbeats 2000000
set_option maxRecDepth 100000
variable{w:World}{base c k n:Nat}{A:Option Addr}
namespace Idx
open Go.RowKit Mem Own Canon Sift Go.Sort
theorem eQ{zs:List Str}{u:Str}:u∈Lib.compact zs↔u∈zs:=by
 unfold Lib.compact Lib.compactUpTo;rw[Co];constructor
 ·rintro⟨i,hi,rfl⟩;have hi:=(List.mem_filter.1 hi).1;rw[FN]at hi;rw[getElem!_pos zs.toArray i (by simpa using hi)];simp
 ·intro hu;obtain⟨j,hj,rfl⟩:=List.getElem_of_mem hu;clear hu
  induction j with
  |zero=>exact⟨0,List.mem_filter.2 ⟨FN.2 hj,by simp[Lib.keeps]⟩,by rw[getElem!_pos zs.toArray 0 (by simpa using hj)];simp⟩
  |succ j ih=>
   have e1:zs.toArray[j+1]! =zs[j+1]:=(by rw[getElem!_pos zs.toArray (j+1) (by simpa using hj)];simp);have e0:zs.toArray[j]! =zs[j]:=(by rw[getElem!_pos zs.toArray j rg];simp);by_cases h:zs[j+1]=zs[j]
   ·obtain⟨i,h1,h2⟩:=ih nj;exact⟨i,h1,h2.trans h.symm⟩
   ·refine⟨j+1,List.mem_filter.2 ⟨FN.2 hj,?_⟩,e1⟩;unfold Lib.keeps;rw[decide_eq_true_eq]
    right
    rw[Nat.add_sub_cancel,e1,e0];exact h
theorem Zs{zs:List Str}(h:zs.Pairwise (·<= ·)):Fa (Lib.compact zs):=by
 have hp:=List.pairwise_iff_getElem.1 h;unfold Fa Lib.compact Lib.compactUpTo;rw[List.pairwise_map];refine List.Pairwise.imp_of_mem (R:=(·< ·)) ?_ (List.Pairwise.filter _ List.pairwise_lt_range);intro i j hi hj M;obtain⟨E,y⟩:=List.mem_filter.1 hj;rw[FN]at E;have e0:zs.toArray[i]! =zs[i]:=by rw[getElem!_pos zs.toArray i rg];simp
 have e1:zs.toArray[j]! =zs[j]:=by rw[getElem!_pos zs.toArray j (by simpa using E)];simp
 have e2:zs.toArray[j-1]! =zs[j-1]:=by rw[getElem!_pos zs.toArray (j-1) rg];simp
 unfold Lib.keeps at y;rw[decide_eq_true_eq,e1,e2]at y;have J:zs[j]≠zs[j-1]:=y.resolve_left nj;have G:=hp (j-1) j nj E nj;have z:zs[j-1]<zs[j]:=(LH zs[j-1] zs[j]).elim id fun k=>k.elim (fun k=>absurd k.symm J) (fun k=>absurd k G);rw[e0,e1];by_cases L:i=j-1
 ·subst L;exact z
 ·have h2:=hp i (j-1) nj nj nj;rcases LH zs[i] zs[j-1]with k|k|k
  ·exact Mg k z
  ·rw[k];exact z
  ·exact absurd k h2
def Hc(l:List Str):List Str:=l.mergeSort fun x y=>decide (x<=y)
theorem Se(l:List Str):(Hc l).Pairwise (·<= ·):=by
 have h:=List.pairwise_mergeSort (le:=fun(x y:Str)=>decide (x<=y)) (fun a b c h1 h2=>by
  simp only[decide_eq_true_eq]at h1 h2 ⊢;exact List.le_trans h1 h2) (fun a b=>by
  simp only[Bool.or_eq_true,decide_eq_true_eq];exact List.le_total a b) l
 exact h.imp fun h=>of_decide_eq_true h
theorem TO{l:List Str}{u:Str}:u∈Hc l↔u∈l:=List.mem_mergeSort
theorem dN(l:List Str):Lib.compact (Hc l)=xZ [] l:=
 Og (Zs (Se l)) (MD l List.Pairwise.nil) fun s=>by rw[eQ,TO,L1];simp
theorem Yz(l:List Str):l.map encStr=zZ l:=rfl
theorem Yf{ss:List Str}(h:w.ownsRow base 9 1 (.slice A n c) n (zZ ss))(hn:n<=1000000):
 Calls prog 181 #[.slice A n c] w fun e w'=>e= .returned (.tuple #[])/\w'.ownsRow base 9 1 (.slice A n c) n (zZ (Hc ss))/\w.grownBy w' (Value.slice A n c).ownBlock:=by
 rcases h.2 with ⟨hv,h0⟩|⟨g,M,cur,hv,j,hb,h1,h2,h3,h4⟩
 ·injection hv with e1 e2 e3;subst e1 e2 e3;have hs:ss= []:=by have:=h.1;simpa[zZ]using this
  subst hs;refine(Tryz.slices_Sort_string_none none 0 w).mono ?_;rintro e w' ⟨rfl,rfl⟩;refine⟨rfl,?_,World.grownBy.refl _ _⟩;rw[show Hc []= [] by simp[Hc]];exact AE _ _ _ _
 ·injection hv with e1 e2 e3;subst e1 e3;obtain⟨g',G,hA,L,E,z,J,i,hH⟩:=Lib.holds_of_ownsRow (enc:=encStr) (zs:=ss) h qT;injection hA with hA1 hA2 hA3;injection hA1 with hA1;injection hA1 with hA1;subst hA1 hA3;have hD:=Tryz.slices_Sort_string g 0 c ss w hH E nj;rw[i]at hD;refine hD.mono ?_;rintro e w' ⟨rfl,nn,os,rfl⟩;have y:(Hc ss).length=ss.length:=List.length_mergeSort ss;subst i;exact⟨rfl,ownsRow_sorted (n:=nn) (os:=os) (ts:=Hc ss) y j hb h1 h2 h3,grownBy_sorted _⟩
theorem cJ{ss:List Str}(h:w.ownsRow base 9 1 (.slice A n c) n (zZ ss))(hn:n<=1000000):
 Calls prog 182 #[.slice A n c] w fun e w'=>e= .returned (.slice A (Lib.compact ss).length c)/\w'.ownsRow base 9 1 (.slice A (Lib.compact ss).length c) (Lib.compact ss).length (zZ (Lib.compact ss))/\∀a,Below base a w->Below base a w':=by
 rcases h.2 with ⟨hv,h0⟩|⟨g,J,cur,hv,i,hb,h1,h2,h3,h4⟩
 ·injection hv with e1 e2 e3;subst e1 e2 e3;have hs:ss= []:=by have:=h.1;simpa[zZ]using this
  subst hs;refine(Tryz.slices_Compact_string_empty none 0 w).mono ?_;rintro e w' ⟨rfl,rfl⟩;exact⟨rfl,AE _ _ _ _,fun a h=>h⟩
 ·injection hv with e1 e2 e3;subst e1 e3;obtain⟨g',z,hA,G,L,y,E,j,hH⟩:=Lib.holds_of_ownsRow (enc:=encStr) (zs:=ss) h qT;injection hA with hA1 hA2 hA3;injection hA1 with hA1;injection hA1 with hA1;subst hA1 hA3;have hD:=Tryz.slices_Compact_string g 0 c ss w hH nj nj;rw[j]at hD;refine hD.mono ?_;rintro e w' ⟨rfl,q,rfl⟩;have M:=Lib.compact_length_le ss;have hc:=Lib.ownsRow_putRow (enc:=encStr) (q:=q) (k:=(Lib.compact ss).length) (ys:=Lib.compact ss++List.replicate (n-(Lib.compact ss).length) []) h rg nj;rw[List.take_left]at hc;exact⟨rfl,hc,fun a h=>Lib.below_putRow h i⟩
def IZ(ts:List Str)(w:World)(e:Ending)(w':World):Prop:=
 ∃v,e= .returned v/\w'.ownsRow w 9 1 v ts.length (zZ ts)/\Below w w w'
theorem Qv:∀ (l row:List UInt8),(split row l).length<=row.length+l.length
 | [],row=>by rw[split];have:=Nc row;simpa using this
 |c :: t,row=>by
  rw[split];split
  ·have:=Qv t (row++ [Ez c]);simp at this ⊢;omega
  ·have h1:=Qv t [];have h2:=Nc row;rw[Ag,AD];simp at h1;omega
theorem Kl(l:List UInt8):(words l).length<=l.length:=by have:=Qv l [];simpa[words]using this
theorem dK(w:World)(tm lv:Int)(so tx:ByteArray)(hs:so.size<=50000)(ht:tx.size<=50000):
 Calls prog 106 #[.agg #[.int .u64 tm, .int .u8 lv, .string so, .string tx]] w (IZ (FV tx.data.toList so.data.toList) w):=by
 have D1:Hid (∀ (B:Nat) (a wx:World) (bo:Nat),Below B a wx->B<=a.heap.size->Blk wx bo 50 #[()]->B<=bo->Calls prog 178 #[.string tx,GH bo] wx (Jz idS [] tx B a bo)):=fun B a wx bo hb ha ho hl=>iP B a wx bo tx [] (.slice none 0 0) nj qT ht hb ha ho (AE _ _ _ _) hl;have D2:Hid (∀ (B:Nat) (a wx:World) (bo:Nat) (ws0:List Str) (v0:Value),ws0.length<=50000->Below B a wx->B<=a.heap.size->Blk wx bo 50 #[v0]->wx.ownsRow B 9 1 v0 ws0.length (zZ ws0)->B<=bo->Calls prog 178 #[.string so,GG bo] wx (Jz atS ws0 so B a bo)):=fun B a wx bo ws0 v0 h0 hb ha ho hw hl=>fR B a wx bo so ws0 v0 nj h0 hs hb ha ho hw hl;have hT:GY tx.data.toList so.data.toList=(words tx.data.toList).map idS++(words so.data.toList).map atS:=by unfold GY;rw[show(words tx.data.toList).map idS=words tx.data.toList from List.map_id' _];rfl
 have an:((words tx.data.toList).map idS).length<=50000:=by have:=Kl tx.data.toList;have h2:=Lib.size_eq tx;rw[Bc];omega
 have az:((words so.data.toList).map atS).length<=50000:=by have:=Kl so.data.toList;have h2:=Lib.size_eq so;rw[Bc];omega
 have ai:FV tx.data.toList so.data.toList=Lib.compact (Hc ((words tx.data.toList).map idS++(words so.data.toList).map atS)):=by rw[dN,<-hT];rfl
 unfold IZ;rw[ai];unfold Jz at D1 D2;clear hT ai hs ht;generalize (words tx.data.toList).map idS=W1 at *;generalize (words so.data.toList).map atS=W2 at *;unfold GH at D1;unfold GG at D2;obtain⟨WS,M⟩:=ii (W1++W2);rw[<-M];have aq:=hid M;clear M;go_enter func106,ntmps106;go_wp2_with fail;have ak:Below w w (w.alloc (.cells #[.int .u64 tm, .int .u8 lv, .string so, .string tx] 43)):=aZ (Ae _ _);have ae:Blk (w.alloc (.cells #[.int .u64 tm, .int .u8 lv, .string so, .string tx] 43)) w 43 #[.int .u64 tm, .int .u8 lv, .string so, .string tx]:=Blk.made _ _ _;have al:(w.alloc (.cells #[.int .u64 tm, .int .u8 lv, .string so, .string tx] 43)).heap.size=w.heap.size+1:=qT
 generalize w.alloc (.cells #[.int .u64 tm, .int .u8 lv, .string so, .string tx] 43)=wa at *;have j:Below wa wa (wa.alloc (.cells #[()] 50)):=aZ (Ae _ _);have am:Blk (wa.alloc (.cells #[()] 50)) wa 50 #[()]:=Blk.made _ _ _;rw[<-al];have E1:=hid (D1.out wa wa _ wa j (Ak _) am (Ak _));have ax:=hid ak;have aj:=hid ae;clear D1 j am ak ae al;obtain⟨B,hB⟩:=ii wa.heap.size;have aa:B<=wa.heap.size:=nj
 rw[<-hB]at E1 ⊢;have Y:Hid (w.heap.size<B):=by show _<_;rw[hB];exact aj.out.lt
 have ay:=hid hB;clear hB;refine E1.out.mono ?_;rintro e w1 ⟨rfl,j,v1,E,N⟩;have au:Hid (w1.ownsRow B 9 1 v1 W1.length (zZ W1)):=N;have ac:=hid E;have ab:=hid j;have E2:=hid (D2.out B wa w1 B W1 v1 an j aa E N (Ak _));have c2:w1.cell? ⟨w,2,none⟩=some (.string so):=(ab.out.cell (p:=⟨w,2,none⟩) Y.out).trans (aj.out.cell 2);clear E1 D2 j E N;go_wp2_with fail;refine E2.out.mono ?_;rintro e w2 ⟨rfl,ag,v2,h,z⟩;obtain⟨A2,c3,rfl⟩:=bZ z;have k0:=h.ia 0;have J:(W1++W2).length<=1000000:=pd
 rw[<-aq.out]at J k0 h z;have E3:=hid (Yf z J);have i:=hid h;have Q:=hid ag;have G:=hid z;obtain⟨n,hn⟩:=ii WS.length;rw[<-hn]at k0 E3 G J i;have HN:=hid hn;clear E2 c2 ag h z au ac ab hn;go_wp2_with fail;refine E3.out.mono ?_;rintro e w3 ⟨rfl,ah,U⟩;have L:=i.out.grown U (fun e=>fZ G.out i.out ip e.symm);have k3:=L.ia 0;have ar:Hid (Below B wa w3):=Q.out.grown U (AN aa Q.out.size) (fun y hy=>(Aj G.out y hy).1);have E4:=hid (cJ ah J);clear E3 ah U L k0 Q G i;go_wp2_with fail;refine E4.out.mono ?_;rintro e w4 ⟨rfl,Z,af⟩;have av:Hid (Below w w w4):=ax.out.trans ((af wa ar.out).mono (Nat.le_of_lt Y.out));have aw:=hid (lZ Z (Nat.le_of_lt Y.out));clear E4 Z af;go_wp2_with fail;go_ret;exact⟨_,rfl,aw.out,av.out⟩
end Idx
namespace Idx
open Go.RowKit Mem Own Canon Sift
open Crc (Fv)
section
variable {w:World} {base n c s:Nat} {e:TypeId} {A:Option Addr} {xs:List Value}
theorem RV(h:w.ownsRow base e 1 (.slice A n c) n xs)(m:Nat)(hm:m<=n):Src w A m c 1 (xs.take m):=by
 have hl:=h.1;refine⟨by rw[Ba,hl];omega,?_⟩;rcases h.2 with ⟨hv,h0⟩|⟨g,i,cur,hv,_⟩
 ·injection hv with e1 e2 e3;subst e1 e2 e3;exact .inl ⟨rfl,nj,rfl⟩
 ·injection hv with e1 e2 e3;subst e1 e3;refine .inr ⟨_,rfl,fun j u hu=> ?_⟩;have hj:j<m:=by have:=(BW.1 hu).1;rw[Ba]at this;omega
  rw[Mem.add_none,BP,h.cellAt j nj]
  rwa [Gg,Ab hj]at hu
theorem Rz(h:w.ownsRow base e 1 (.slice A n c) n xs)(k:Nat)(hk:k<=n):Src w (AR A k c 1) (n-k) (c-k) 1 (xs.drop k):=by
 have hl:=h.1;refine⟨by rw[AO,hl];omega,?_⟩;rcases h.2 with ⟨hv,h0⟩|⟨g,y,cur,hv,_,_,hc,_⟩
 ·injection hv with e1 e2 e3;subst e1 e2 e3;obtain rfl:k=0:=by omega
  exact .inl ⟨rfl,rfl,rfl⟩
 ·injection hv with e1 e2 e3;subst e1 e3;have i:∀j u,(xs.drop k)[j]? =some u->w.cell? ⟨g,k+j,none⟩=some u:=fun j u hu=>by rw[GB]at hu;have hj:=(BW.1 hu).1;rw[h.cellAt (k+j) nj];exact hu
  unfold AR;split
  ·refine .inr ⟨_,rfl,fun j u hu=> ?_⟩;have hj:=(BW.1 hu).1;rw[AO]at hj;omega
  ·exact .inr ⟨_,rfl,fun j u hu=>by show w.cell? (Addr.add (Addr.add ⟨g,0,none⟩ (k*1)) j)=_;rw[Mem.add_none,Mem.add_none,BP,CO];exact i j u hu⟩
theorem Rl(h:w.ownsRow base e 1 (.slice A n c) n xs):n<=c/\∀a,A=some a->a.add 0=a:=by
 rcases h.2 with ⟨hv,h0⟩|⟨g,i,cur,hv,_,_,hc,_⟩
 ·injection hv with e1 e2 e3;subst e1 e2 e3;exact⟨Ak _,fun a ha=>by cases ha⟩
 ·injection hv with e1 e2 e3;subst e1 e3;exact⟨hc,fun a ha=>by injection ha with ha;subst ha;exact Mem.add_none _ _ _⟩
end
theorem J4(l:List Str):∀u∈zZ l,u.oneCell'=true:=by intro u hu;obtain⟨x,_,rfl⟩:=Co.1 hu;rfl
theorem Ii{l:List Str}{i:Nat}{x:Str}(h:l[i]? =some x):(zZ l)[i]? =some (.string (bs x)):=by simp[zZ,h]
theorem Oe(a b:List Str):zZ (a++b)=zZ a++zZ b:=by simp[zZ]
theorem TA(a:List Str)(k:Nat):(zZ a).take k=zZ (a.take k):=by simp[zZ,List.map_take]
theorem Tq(a:List Str)(k:Nat):(zZ a).drop k=zZ (a.drop k):=by simp[zZ,List.map_drop]
theorem N9(a:List Str):(zZ a).length=a.length:=by simp[zZ]
theorem Oc(x s:Str):Op.bytesLess (bs x).toList (bs s).toList=decide (x<s):=by rw[GX,GX,IF,IF,bytesLess_eq]
theorem str_eq(x s:Str):((bs x).toList==(bs s).toList)=decide (x=s):=by rw[GX,GX,IF,IF];exact KE.2 qT
def Kf(ts:List Str)(base:Nat)(w:World)(e:Ending)(w':World):Prop:=
 ∃v,e= .returned v/\w'.ownsRow base 9 1 v ts.length (zZ ts)/\Below w w w'
theorem Oa(w:World)(base:Nat)(A:Option Addr)(n c:Nat)(ls:List Str)(s:Str)(hn:ls.length=n)(hN:n<=3000000000)(ar:base<=w.heap.size)(aq:w.ownsRow base 9 1 (.slice A n c) n (zZ ls)):
 Calls prog 69 #[.slice A n c, .string (bs s)] w (Kf (C9 ls s) base w):=by
 obtain⟨j0,Y,U,N,Z⟩:=info_parts KO;have HN:=hid hn;have HO:=hid aq;obtain⟨a9,M⟩:=Rl aq;have HP:Hid (∀k,k<=ls.length->(∀i,(h:i<k)->(h':i<ls.length)->ls[i]<s)->(∀x,ls[k]? =some x->¬x<s)->C9 ls s=if ls[k]? =some s then ls else ls.take k++s :: ls.drop k):=SC s ls;unfold Kf;generalize C9 ls s=R at *;clear hn aq;go_enter func69,ntmps69;go_wp2_with fail;go_loopw [5] (fun iv wx=>∃k:Nat,k<=n/\iv= .int .i64 k/\Hid (∀i,(h:i<k)->(h':i<ls.length)->ls[i]<s)/\wx=w) (fun iv _=>n-(intOf iv).toNat)
 case atStart=>exact⟨0,nj,rfl,fun i h=>absurd h nj,rfl⟩
 case round=>
  obtain⟨k,hk,rfl,HS,rfl⟩:=hrel;by_cases bb:k<n
  ·have gk:=ic ((k:Int)<n);have a1:=ic (k<n);have x0:(0:Int)<=(k:Int):=nj;have x1:(k:Int)<(n:Int):=nj;obtain⟨g,cg,a4,ba,_⟩:=HO.out.form nj;injection a4 with hA1 hA2 hA3;subst hA1 hA3;obtain⟨x,hx⟩:∃x,ls[k]? =some x:=⟨_,Aw md⟩;have ck:wr.cell? ⟨g,k,none⟩=some (.string (bs x)):=(by rw[HO.out.cellAt k nj];exact Ii hx);have HX:=hid hx;clear hx;by_cases Q:x<s
   ·have gx:Op.bytesLess (bs x).toList (bs s).toList=true:=by rw[Oc];simpa using Q
    have L:Hid (∀i,(h:i<k+1)->(h':i<ls.length)->ls[i]<s):=fun i h h'=>by
     by_cases e:i<k
     ·exact HS.out i e h'
     ·obtain rfl:i=k:=by omega
      have:=HX.out;rw[Aw h']at this;injection this with this;rw[this];exact Q
    have s2:IntKind.i64.wrap ((k:Int)+1)=((k+1:Nat):Int):=pi;clear HS Q;go_wp2_with fail;go_roundw
    case measure=>exact jq
    case rel=>go_light;exact⟨k+1,nj,iw,L.out,iz⟩
   ·have gx:Op.bytesLess (bs x).toList (bs s).toList=false:=(by rw[Oc];simpa using Q);have G:Hid (∀y,ls[k]? =some y->¬y<s):=fun y hy=>by have h:=HX.out;rw[hy]at h;injection h with h;rw[h];exact Q
    clear Q;by_cases he:x=s
    ·have ge:((bs x).toList==(bs s).toList)=true:=qC;have HR:Hid (R=ls):=(by have h:=HP.out k md HS.out G.out;rw[Ab (by rw[HX.out,he])]at h;exact h);clear HP HS G HX he;go_wp2_with fail;go_ret;exact⟨_,rfl,by rw[HR.out,HN.out];exact HO.out,Ae _ _⟩
    ·have ge:((bs x).toList==(bs s).toList)=false:=qC;have al:Hid (¬ls[k]? =some s):=fun h=>by have h2:=HX.out;rw[h]at h2;injection h2 with h2;exact he h2.symm
     clear HX he;have HR:Hid (R=ls.take k++s :: ls.drop k):=ke;have a6:=fun wx=>Fv (P:=prog) (t:=50) (s:=1) underlying50 (fun _=>by kernel_rfl) (some ⟨g,0,none⟩) n c .i64 (k:Int) k rfl nj M wx;have ay:=fun wx=>FK (P:=prog) (t:=50) (s:=1) underlying50 (fun _=>by kernel_rfl) (some ⟨g,0,none⟩) n c .i64 (k:Int) k rfl hk wx;have ax:Hid (Src wr (some ⟨g,0,none⟩) k c 1 (zZ (ls.take k))):=(by rw[<-TA];exact RV HO.out k hk);have L:Hid (∀wx,Below wr wr wx->Src wx (AR (some ⟨g,0,none⟩) k c 1) (n-k) (c-k) 1 (zZ (ls.drop k))):=fun wx hb=>nw
     generalize AR (some ⟨g,0,none⟩) k c 1=A5 at *;generalize c-k=c5 at *;obtain⟨m5,ai⟩:=ii (n-k);rw[<-ai]at L ay;have ab:k+m5=n:=nj;have av:=hid ab;have a5:k+1+m5<=3000000001:=nj;have a3:k<=3000000000:=nj;clear HP HS G al M HO ai ab;go_wp2_with(first|(at_builtin;refine iZ rfl (.tmp 34) (.tmp 37) 50 rfl wr 9 j0 _ 1 16 underlying50 Y U N Z rfl ip (.slice none 0 0) 0 [] nm (AE _ _ _ _) _ _ _ _ nm ax.out (J4 _) rE nj (Ak _) ?_;intro v4 w4 j ak aa;obtain⟨A4,k4,rfl⟩:=bZ j;have ag:Hid (Below wr wr w4):=(Ae _ _).grown ak (Ak _) (fun y hy=>by cases hy);have a0:=ag.out.size;rw[BP,EF]at j;have af:=hid j;clear j ak aa)|(at_builtin;refine iZ rfl (.tmp 39) (.tmp 41) 50 rfl wr 9 j0 _ 1 16 underlying50 Y U N Z rfl ip _ _ _ nm (af.out.alloc _) _ 1 1 [.string (bs s)] nm (Src.of_blk (Blk.made _ _ _) 1 1 1 rfl) mq rE nj rg ?_;intro v6 w6 z ah am;obtain⟨A6,k6,rfl⟩:=bZ z;have J:Hid (Below wr wr w6):=(mZ a0 ag.out).grown ah rg (fun y hy=>(Aj af.out y hy).1);have ac:=J.out.size;have ae:=hid z;have aw:=hid (L.out _ J.out);clear z ah am)|(at_builtin;refine iZ rfl (.tmp 43) (.tmp 46) 50 rfl wr 9 j0 _ 1 16 underlying50 Y U N Z rfl ip _ _ _ nm ae.out _ _ _ _ nm aw.out (J4 _) rE nj ac ?_;intro v8 w8 E an aj;have az:Hid (Below wr wr w8):=J.out.grown an ac (fun y hy=>(Aj ae.out y hy).1);have au:=hid E;clear E an aj));go_ret;refine⟨_,rfl,?_,az.out⟩;have h:=lZ au.out ar;rw[HR.out];have e1:(zZ (ls.take k)++ [.string (bs s)]++zZ (ls.drop k))=zZ (ls.take k++s :: ls.drop k):=by simp[zZ]
     have e2:(ls.take k++s :: ls.drop k).length=k+1+m5:=jx;rw[e2,<-e1];exact h
  ·have gk:=ig ((k:Int)<n);have a1:=ig (k<n);have G:Hid (∀y,ls[k]? =some y->¬y<s):=fun y hy=>by rw[Fk px]at hy;cases hy
   have al:Hid (¬ls[k]? =some s):=(by show ¬_;rw[Fk px];simp);have HR:Hid (R=ls.take k++s :: ls.drop k):=ke;have a6:=fun wx=>Fv (P:=prog) (t:=50) (s:=1) underlying50 (fun _=>by kernel_rfl) A n c .i64 (k:Int) k rfl nj M wx;have ay:=fun wx=>FK (P:=prog) (t:=50) (s:=1) underlying50 (fun _=>by kernel_rfl) A n c .i64 (k:Int) k rfl hk wx;have ax:Hid (Src wr A k c 1 (zZ (ls.take k))):=(by rw[<-TA];exact RV HO.out k hk);have L:Hid (∀wx,Below wr wr wx->Src wx (AR A k c 1) (n-k) (c-k) 1 (zZ (ls.drop k))):=fun wx hb=>nw
   generalize AR A k c 1=A5 at *;generalize c-k=c5 at *;obtain⟨m5,ai⟩:=ii (n-k);rw[<-ai]at L ay;have ab:k+m5=n:=nj;have av:=hid ab;have a5:k+1+m5<=3000000001:=nj;have a3:k<=3000000000:=nj;clear HP HS G al M HO ai ab;go_wp2_with(first|(at_builtin;refine iZ rfl (.tmp 34) (.tmp 37) 50 rfl wr 9 j0 _ 1 16 underlying50 Y U N Z rfl ip (.slice none 0 0) 0 [] nm (AE _ _ _ _) _ _ _ _ nm ax.out (J4 _) rE nj (Ak _) ?_;intro v4 w4 j ak aa;obtain⟨A4,k4,rfl⟩:=bZ j;have ag:Hid (Below wr wr w4):=(Ae _ _).grown ak (Ak _) (fun y hy=>by cases hy);have a0:=ag.out.size;rw[BP,EF]at j;have af:=hid j;clear j ak aa)|(at_builtin;refine iZ rfl (.tmp 39) (.tmp 41) 50 rfl wr 9 j0 _ 1 16 underlying50 Y U N Z rfl ip _ _ _ nm (af.out.alloc _) _ 1 1 [.string (bs s)] nm (Src.of_blk (Blk.made _ _ _) 1 1 1 rfl) mq rE nj rg ?_;intro v6 w6 z ah am;obtain⟨A6,k6,rfl⟩:=bZ z;have J:Hid (Below wr wr w6):=(mZ a0 ag.out).grown ah rg (fun y hy=>(Aj af.out y hy).1);have ac:=J.out.size;have ae:=hid z;have aw:=hid (L.out _ J.out);clear z ah am)|(at_builtin;refine iZ rfl (.tmp 43) (.tmp 46) 50 rfl wr 9 j0 _ 1 16 underlying50 Y U N Z rfl ip _ _ _ nm ae.out _ _ _ _ nm aw.out (J4 _) rE nj ac ?_;intro v8 w8 E an aj;have az:Hid (Below wr wr w8):=J.out.grown an ac (fun y hy=>(Aj ae.out y hy).1);have au:=hid E;clear E an aj));go_ret;refine⟨_,rfl,?_,az.out⟩;have h:=lZ au.out ar;rw[HR.out];have e1:(zZ (ls.take k)++ [.string (bs s)]++zZ (ls.drop k))=zZ (ls.take k++s :: ls.drop k):=by simp[zZ]
   have e2:(ls.take k++s :: ls.drop k).length=k+1+m5:=jx;rw[e2,<-e1];exact h
end Idx
namespace Idx
open Go.RowKit Mem Own Canon Sift
theorem Pu{W:List Str}{x:Str}(i:List Str)(h:W[k]? =some x):xZ i (W.take (k+1))=C9 (xZ i (W.take k)) x:=by rw[BN,h];exact j7 _ _ _
theorem KM(s:Str):∀l,(C9 l s).length<=l.length+1
 | []=>by simp[C9]
 |x :: t=>by
  have:=KM s t;rw[C9];split
  ·simp only[List.length_cons];omega
  ·split<;>simp
theorem NT:∀ (l h:List Str),(xZ h l).length<=h.length+l.length
 | [],h=>by simp[xZ]
 |x :: t,h=>by have h1:=NT t (C9 h x);have h2:=KM x h;unfold xZ at h1 ⊢;rw[List.foldl_cons,AD];omega
theorem Lr:∀ (l row:List UInt8),∀x∈split row l,1<=x.length/\x.length<=24
 | [],row,x,hx=>by
  rw[split]at hx;unfold tell at hx;split at hx
  ·cases hx
  ·rename_i h;have:=FP.2 h;obtain rfl:x=row.take 24:=by simpa using hx
   rw[Ba];omega
 |c :: t,row,x,hx=>by
  rw[split]at hx;split at hx
  ·exact Lr t _ x hx
  ·rcases BQ.1 hx with hx|hx
   ·exact Lr [] row x (by rw[split];exact hx)
   ·exact Lr t [] x hx
theorem Pn(l:List UInt8):∀x∈words l,1<=x.length/\x.length<=24:=Lr l []
theorem bY(w:World)(tm lv:Int)(so tx:ByteArray)(hs:so.size<=50000)(ht:tx.size<=50000):
 Calls prog 68 #[.agg #[.int .u64 tm, .int .u8 lv, .string so, .string tx]] w (IZ (FV tx.data.toList so.data.toList) w):=by
 have D1:=hid (fun wx=>QX wx tx nj);have D2:=hid (fun wx=>QX wx so nj);have a5:(words tx.data.toList).length<=50000:=by have:=Kl tx.data.toList;have h2:=Lib.size_eq tx;omega
 have a4:(words so.data.toList).length<=50000:=by have:=Kl so.data.toList;have h2:=Lib.size_eq so;omega
 have hT:FV tx.data.toList so.data.toList=xZ (xZ [] (words tx.data.toList)) ((words so.data.toList).map (Er :: ·)):=by unfold FV GY;rw[lB]
 have ax:Hid (∀x∈words so.data.toList,x.length<=24):=fun x hx=>(Pn _ x hx).2;unfold QB at D1 D2;unfold IZ;generalize words tx.data.toList=W1 at *;generalize words so.data.toList=W2 at *;obtain⟨TS,ag⟩:=ii (FV tx.data.toList so.data.toList);rw[<-ag]at hT ⊢;have HT:=hid hT;have a6:so.size<=50000:=hs;clear hT ag hs ht;go_enter func68,ntmps68;go_wp2_with fail;have ah:Below w w (w.alloc (.cells #[.int .u64 tm, .int .u8 lv, .string so, .string tx] 43)):=aZ (Ae _ _);have ai:Blk (w.alloc (.cells #[.int .u64 tm, .int .u8 lv, .string so, .string tx] 43)) w 43 #[.int .u64 tm, .int .u8 lv, .string so, .string tx]:=Blk.made _ _ _;generalize w.alloc (.cells #[.int .u64 tm, .int .u8 lv, .string so, .string tx] 43)=wa at *;refine(D1.out _).mono ?_;rintro e w1 ⟨v1,rfl,aa,af⟩;obtain⟨A1,c1,rfl⟩:=bZ aa;have J:=hid aa;have ae:Hid (Below w w w1):=dZ af ah;have am:=hid (ai.step af);clear aa af ah ai D1;go_wp2_with fail;go_loopw [3,5] (fun u iv wr=>∃ (k n:Nat),k<=W1.length/\n<=0+k/\iv= .int .i64 k/\Hid ((xZ [] (W1.take k)).length=n)/\Hid (wr.ownsRow w1 9 1 u n (zZ (xZ [] (W1.take k))))/\Hid (Below w1 w1 wr)) (fun _ iv _=>W1.length-(intOf iv).toNat)
 case atStart=>exact⟨0,0,nj,nj,rfl,rfl,AE _ _ _ _,Ae _ _⟩
 case round=>
  obtain⟨k,n,hk,hn,rfl,HL,HO,HB⟩:=hrel;have hz:=HB.out.size;by_cases M:k<W1.length
  ·obtain⟨x,hx⟩:∃x,W1[k]? =some x:=⟨_,Aw M⟩;have E:=hid (Pu (W:=W1) (k:=k) [] (show W1[k]? =some x by exact hx));have gk:=ic ((k:Int)<W1.length);have N:=ic (k<W1.length);have x0:(0:Int)<=(k:Int):=nj;have x1:(k:Int)<(W1.length:Int):=nj;obtain⟨g,cg,Y,av,_⟩:=J.out.form nj;injection Y with hA1 hA2 hA3;subst hA1 hA3;have ck:wr.cell? ⟨g,k,none⟩=some (.string (bs x)):=(by have h:=J.out.cellAt k nj;rw[<-Ii hx,<-h];exact HB.out.cell (p:=⟨g,k,none⟩) (Aj J.out g rfl).2);obtain⟨A,c,rfl⟩:=bZ HO.out;have i:=KM x (xZ [] (W1.take k));rw[HL.out]at i;have D:=hid (Oa wr w1 A n c (xZ [] (W1.take k)) x HL.out nj hz HO.out);unfold Kf at D;rw[<-E.out]at D i;have s2:IntKind.i64.wrap ((k:Int)+1)=((k+1:Nat):Int):=pi;obtain⟨R,hR⟩:=ii (xZ [] (W1.take (k+1)));rw[<-hR]at D i;have HR:=hid hR;clear hx E hR;go_wp2_with fail;refine D.out.mono ?_;rintro e w4 ⟨v4,rfl,j,z⟩;obtain⟨A4,c4,rfl⟩:=bZ j;have ab:=hid j;have ac:Hid (Below w1 w1 w4):=dZ z HB.out;clear j z D HO HB;go_wp2_with fail;go_roundw
   case measure=>exact jq
   case rel=>exact jh
  ·obtain rfl:k=W1.length:=by omega
   have gk:=ig ((W1.length:Int)<W1.length);have N:=ig (W1.length<W1.length);have h1:W1.take W1.length=W1:=List.take_length;rw[h1]at HL HO;have c2:=(am.out.step HB.out).ia 2;have U:=NT W1 [];rw[HL.out]at U;simp only[List.length_nil]at U;obtain⟨q1,an⟩:=ii n;have a3:q1<=50000:=nj;rw[<-an]at HL HO;obtain⟨w3,rfl⟩:=ii wr;have aq:Hid (Below w w w3):=dZ HB.out ae.out;have aj:=hid HL.out;have G:=hid HO.out;have al:=HB.out.size;obtain⟨A0,c0,rfl⟩:=bZ G.out;have ay:=hid ae.out.size;clear h1 an U HL HO HB am ae M hn hk J;go_wp2_with fail;refine(D2.out _).mono ?_;rintro e w5 ⟨v2,rfl,Q,L⟩;obtain⟨A2,ba,rfl⟩:=bZ Q;have Z:=hid Q;have ak:Hid (Below w w w5):=dZ L aq.out;have az:Hid (w5.ownsRow w1 9 1 (.slice A0 q1 c0) q1 (zZ (xZ [] W1))):=eZ G.out (fun y hy=>L.block y (Aj G.out y hy).2);have a1:Hid ((xZ (xZ [] W1) ((W2.map (Er :: ·)).take 0)).length=q1):=aj.out;have ar:w1.heap.size<=w5.heap.size:=AN al L.size;have aw:w.heap.size<=w1.heap.size:=ay.out;clear Q L D2 c2 G aj;go_wp2_with fail;go_loopw [3,6] (fun u iv wr=>∃ (k n:Nat),k<=W2.length/\n<=50000+k/\iv= .int .i64 k/\Hid ((xZ (xZ [] W1) ((W2.map (Er :: ·)).take k)).length=n)/\Hid (wr.ownsRow w1 9 1 u n (zZ (xZ (xZ [] W1) ((W2.map (Er :: ·)).take k))))/\Hid (Below w5 w5 wr)) (fun _ iv _=>W2.length-(intOf iv).toNat)
   case atStart=>exact⟨0,q1,nj,nj,rfl,a1.out,(by show World.ownsRow _ _ _ _ _ _ _;rw[List.take_zero];exact az.out),Ae _ _⟩
   case round=>
    obtain⟨k,n,hk,hn,rfl,HL,HO,HB⟩:=hrel;have hz:=HB.out.size;by_cases M:k<W2.length
    ·obtain⟨x,hx⟩:∃x,W2[k]? =some x:=⟨_,Aw M⟩;have E:=hid (Pu (W:=(W2.map (Er :: ·))) (k:=k) (xZ [] W1) (show(W2.map (Er :: ·))[k]? =some (Er :: x) by rw[BI,hx];rfl));have gk:=ic ((k:Int)<W2.length);have N:=ic (k<W2.length);have x0:(0:Int)<=(k:Int):=nj;have x1:(k:Int)<(W2.length:Int):=nj;obtain⟨g,cg,Y,av,_⟩:=Z.out.form nj;injection Y with hA1 hA2 hA3;subst hA1 hA3;have ck:wr.cell? ⟨g,k,none⟩=some (.string (bs x)):=(by have h:=Z.out.cellAt k nj;rw[<-Ii hx,<-h];exact HB.out.cell (p:=⟨g,k,none⟩) (Aj Z.out g rfl).2);have kc:=TG x;have a9:(bs x).size<=100000:=(by rw[Eh];have:=ax.out x (Be hx);omega);obtain⟨A,c,rfl⟩:=bZ HO.out;have i:=KM (Er :: x) (xZ (xZ [] W1) ((W2.map (Er :: ·)).take k));rw[HL.out]at i;have D:=hid (Oa wr w1 A n c (xZ (xZ [] W1) ((W2.map (Er :: ·)).take k)) (Er :: x) HL.out nj (AN ar hz) HO.out);unfold Kf at D;rw[<-E.out]at D i;have s2:IntKind.i64.wrap ((k:Int)+1)=((k+1:Nat):Int):=pi;obtain⟨R,hR⟩:=ii (xZ (xZ [] W1) ((W2.map (Er :: ·)).take (k+1)));rw[<-hR]at D i;have HR:=hid hR;clear hx E hR;go_wp2_with fail;refine D.out.mono ?_;rintro e w4 ⟨v4,rfl,j,z⟩;obtain⟨A4,c4,rfl⟩:=bZ j;have ab:=hid j;have ac:Hid (Below w5 w5 w4):=dZ z HB.out;clear j z D HO HB;go_wp2_with fail;go_roundw
     case measure=>exact jq
     case rel=>exact jh
    ·obtain rfl:k=W2.length:=by omega
     have gk:=ig ((W2.length:Int)<W2.length);have N:=ig (W2.length<W2.length);have h2:(W2.map (Er :: ·)).take W2.length=W2.map (Er :: ·):=Bw (by rw[Bc];exact Ak _);rw[h2,<-HT.out]at HL HO;have au:Hid (Below w w wr):=dZ HB.out ak.out;have a0:Hid (wr.ownsRow w 9 1 u3 n (zZ TS)):=lZ HO.out aw;clear h2 HO HB HT;go_wp2_with fail;go_ret;exact⟨_,rfl,by rw[HL.out];exact a0.out,au.out⟩
end Idx
namespace Idx
open Go.RowKit Mem Own Canon Sift
def Ee(ls:List Str)(i _j:Nat):Value:= .string (bs (ls.getD i []))
theorem XR(l:List Str)(i j:Nat)(hi:i<l.length)(hj:j<1):(zZ l)[i*1+j]? =some (Ee l i j):=by
 obtain rfl:j=0:=nj
 rw[CO,Bi];unfold Ee;rw[Am,Aw hi];exact Ii (Aw hi)
theorem Jo{l:List Str}(h:w.ownsRow base 9 1 (.slice A n c) n (zZ l)):Row w w A n 1 (Ee l):=
 Row.of_own h rfl fun i j hi hj=>XR l i j (by have:=h.1;rw[N9]at this;omega) hj
theorem Row.str{B:Nat}{l:List Str}(h:Row w B A n 1 (Ee l))(hn:l.length=n)(hk:k<n):
 ∃b i x,A=some ⟨b,i,none⟩/\b<B/\l[k]? =some x/\w.cell? ⟨b,i+k,none⟩=some (.string (bs x)):=by
 obtain⟨b,i,rfl,hb,hc⟩:=h nj;have c0:=hc k 0 hk nj;rw[CO,Bi]at c0;unfold Ee at c0;rw[Am,Aw (show k<l.length by omega)]at c0;exact⟨b,i,_,rfl,hb,Aw nj,c0⟩
theorem QR(w:World)(A:Option Addr)(n c:Nat)(ls:List Str)(s:Str)(hn:ls.length=n)(hN:n<=1000000)(ha:Row w w A n 1 (Ee ls)):
 Calls prog 70 #[.slice A n c, .string (bs s)] w fun e w'=>e= .returned (.bool (ls.contains s))/\w'=w:=by
 have HN:=hid hn;have HY:Hid (∀k:Nat,ls[k]? =some s->ls.contains s=true):=fun k h=>by rw[List.contains_iff_mem];exact Be h
 have j:Hid ((∀ (i:Nat) (x:Str),ls[i]? =some x->x≠s)->ls.contains s=false):=fun(h:∀ (i:Nat) (x:Str),ls[i]? =some x->x≠s)=>by rw[Jk];intro hc;rw[List.contains_iff_mem]at hc;obtain⟨i,hi,e⟩:=List.getElem_of_mem hc;exact h i _ (Aw hi) e
 generalize ls.contains s=R at *;clear hn;go_enter func70,ntmps70;go_wp2_with fail;go_loopw [5] (fun iv wx=>∃k:Nat,k<=n/\iv= .int .i64 k/\Hid (∀ (i:Nat) (x:Str),i<k->ls[i]? =some x->x≠s)/\wx=w) (fun iv _=>n-(intOf iv).toNat)
 case atStart=>exact⟨0,nj,rfl,fun i x h=>absurd h nj,rfl⟩
 case round=>
  obtain⟨k,hk,rfl,HS,rfl⟩:=hrel;by_cases z:k<n
  ·have gk:=ic ((k:Int)<n);have G:=ic (k<n);have x0:(0:Int)<=(k:Int):=nj;have x1:(k:Int)<(n:Int):=nj;obtain⟨b,J,x,rfl,_,hx,ck⟩:=Row.str ha HN.out z;by_cases he:x=s
   ·have ge:((bs x).toList==(bs s).toList)=true:=qC;have hr:=HY.out k (by rw[hx,he]);subst hr;clear HS hx he HY j;go_wp2_with fail;go_ret;exact⟨rfl,rfl⟩
   ·have ge:((bs x).toList==(bs s).toList)=false:=by rw[str_eq];simpa using he
    have E:Hid (∀i y,i<k+1->ls[i]? =some y->y≠s):=fun i y h hy=>by
     by_cases e:i<k
     ·exact HS.out i y e hy
     ·obtain rfl:i=k:=by omega
      rw[hx]at hy;injection hy with hy;rw[<-hy];exact he
    have s2:IntKind.i64.wrap ((k:Int)+1)=((k+1:Nat):Int):=pi;clear HS hx he;go_wp2_with fail;go_roundw
    case measure=>exact jq
    case rel=>go_light;exact⟨k+1,nj,iw,E.out,iz⟩
  ·obtain rfl:k=n:=by omega
   have gk:=ig ((k:Int)<k);have G:=ig (k<k);have hr:=j.out (fun i x hx=>HS.out i x (by have:=(BW.1 hx).1;have:=HN.out;omega) hx);subst hr;clear HS HY j z;go_wp2_with fail;go_ret;exact⟨rfl,rfl⟩
end Idx
namespace Idx
open Go.RowKit Mem Own Canon Sift
theorem bF(w:World)(A A2:Option Addr)(n n2 c c2:Nat)(ls ms:List Str)(hn:ls.length=n)(L:ms.length=n2)(hN:n<=3000000000)(ha:Row w w A n 1 (Ee ls))(U:Row w w A2 n2 1 (Ee ms)):
 Calls prog 66 #[.slice A n c, .slice A2 n2 c2] w fun e w'=>e= .returned (.bool (decide (ls=ms)))/\∃q,w'=w.drewN q:=by
 have HN:=hid hn;have aa:=hid L
 have HY:Hid (n=n2->(∀i,i<n->ls.getD i []=ms.getD i [])->decide (ls=ms)=true):=fun he h=>AK (List.ext_getElem nj fun i h1 h2=>by
  have:=h i nj
  rwa [Am,Am,Aw h1,Aw h2]at this)
 have z:Hid (∀ (i:Nat) x y,ls[i]? =some x->ms[i]? =some y->x≠y->decide (ls=ms)=false):=fun i x y hx hy hne=>AU fun e=>qh
 have E:Hid (n≠n2->decide (ls=ms)=false):=fun hne=>AU fun e=>by rw[e]at hn;omega
 generalize decide (ls=ms)=R at *;clear hn L;by_cases he:n=n2
 ·have z1:((n:Int) != (n2:Int))=false:=by simp;omega
  have Z:(n != n2)=false:=rA
  clear E;go_enter func66,ntmps66;go_wp2_with fail;go_loopw [5] (fun iv wx=>∃k:Nat,k<=n/\iv= .int .i64 k/\Hid (∀i,i<k->ls.getD i []=ms.getD i [])/\Hid (∃q,wx=w.drewN q)) (fun iv _=>n-(intOf iv).toNat)
  case atStart=>exact⟨0,nj,rfl,fun i h=>absurd h nj,0,rfl⟩
  case round=>
   obtain⟨k,hk,rfl,HS,HQ⟩:=hrel;by_cases M:k<n
   ·have gk:=ic ((k:Int)<n);have Y:=ic (k<n);have x0:(0:Int)<=(k:Int):=nj;have x1:(k:Int)<(n:Int):=nj;have x2:(k:Int)<(n2:Int):=nj;have Q:Row wr w A n 1 (Ee ls):=(by obtain⟨q,hq⟩:=HQ.out;rw[hq];exact ha);have J:Row wr w A2 n2 1 (Ee ms):=(by obtain⟨q,hq⟩:=HQ.out;rw[hq];exact U);obtain⟨b,ac,x,rfl,_,hx,ck⟩:=Row.str Q HN.out M;obtain⟨b2,ab,y,rfl,_,hy,ae⟩:=Row.str J aa.out (show k<n2 by omega);have G:Hid (∀nq,∃q,wr.drewN nq=w.drewN q):=fun nq=>by obtain⟨q,hq⟩:=HQ.out;exact⟨_,qq⟩
    by_cases j:x=y
    ·have ge:((bs x).toList==(bs y).toList)=true:=by rw[str_eq];simpa using j
     have N:Hid (∀i,i<k+1->ls.getD i []=ms.getD i []):=fun i h=>by
      by_cases e:i<k
      ·exact HS.out i e
      ·obtain rfl:i=k:=by omega
       rw[Am,Am,hx,hy,j]
     clear HS hx hy j HQ he;go_wp2_with fail;go_quiet (fail);go_wp2_with fail;go_roundw
     case measure=>exact jq
     case rel=>exact ji
    ·have ge:((bs x).toList==(bs y).toList)=false:=(by rw[str_eq];simpa using j);obtain rfl:=z.out k x y hx hy j;clear HS HY z hx hy j HQ he;go_wp2_with fail;go_quiet (fail);go_wp2_with fail;go_ret;exact⟨rfl,G.out _⟩
   ·obtain rfl:k=n:=by omega
    have gk:=ig ((k:Int)<k);have Y:=ig (k<k);obtain rfl:=HY.out he HS.out;clear HS HY z M he;go_wp2_with fail;go_ret;exact⟨rfl,HQ.out⟩
 ·have z1:((n:Int) != (n2:Int))=true:=by simp;omega
  have Z:(n != n2)=true:=rA
  obtain rfl:=E.out he;clear HY z E he;go_enter func66,ntmps66;go_wp2_with fail;go_ret;exact⟨rfl,0,rfl⟩
end Idx
end Go.Proofs.YtfgdoknipbpfhaaGreatDoor
