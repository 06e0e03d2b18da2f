/- A record's terms: so -/
import Derived.Test.YtfgdoknipbpfhaaGreatDoorZBodyIndex22
import Derived.Test.YtfgdoknipbpfhaaGreatDoorZBodyIndex12
import Derived.Sort.OwnSorted
import Derived.Sort.Grow
import Derived.Lib.OwnBridge
import Derived.Lib.SlicesCompact
namespace Go.Proofs.YtfgdoknipbpfhaaGreatDoor
open Go.Proofs.Tryz
open Go.Lib (hid)
set_option maxHeartbeats 2000000
set_option maxRecDepth 100000
variable{w:World}{base c k n:Nat}{A:Option Addr}
namespace Idx
open Go.RowKit Mem Own Canon Sift Go.Sort
theorem cW{zs:List Str}{u:Str}:u∈Lib.compact zs↔u∈zs:=by
 unfold Lib.compact Lib.compactUpTo;rw[Cl];constructor
 ·rintro⟨i,hi,rfl⟩;have hi:=(List.mem_filter.1 hi).1;rw[FA]at hi;rw[getElem!_pos zs.toArray i (by simpa using hi)];simp
 ·intro hu;obtain⟨j,hj,rfl⟩:=List.getElem_of_mem hu;clear hu
  induction j with
  |zero=>exact⟨0,List.mem_filter.2 ⟨FA.2 hj,by simp[Lib.keeps]⟩,by rw[getElem!_pos zs.toArray 0 (by simpa using hj)];simp⟩
  |succ j ih=>
   have e1:zs.toArray[j+1]! =zs[j+1]:=(by rw[getElem!_pos zs.toArray (j+1) (by simpa using hj)];simp);have e0:zs.toArray[j]! =zs[j]:=(by rw[getElem!_pos zs.toArray j p5];simp);by_cases h:zs[j+1]=zs[j]
   ·obtain⟨i,h1,h2⟩:=ih nB;exact⟨i,h1,h2.trans h.symm⟩
   ·refine⟨j+1,List.mem_filter.2 ⟨FA.2 hj,?_⟩,e1⟩;unfold Lib.keeps;rw[decide_eq_true_eq]
    right
    rw[Nat.add_sub_cancel,e1,e0];exact h
theorem WC{zs:List Str}(h:zs.Pairwise (·<= ·)):Fj (Lib.compact zs):=by
 have hp:=List.pairwise_iff_getElem.1 h;unfold Fj Lib.compact Lib.compactUpTo;rw[List.pairwise_map];refine List.Pairwise.imp_of_mem (R:=(·< ·)) ?_ (List.Pairwise.filter _ List.pairwise_lt_range);intro i j hi hj Q;obtain⟨J,G⟩:=List.mem_filter.1 hj;rw[FA]at J;have e0:zs.toArray[i]! =zs[i]:=by rw[getElem!_pos zs.toArray i p5];simp
 have e1:zs.toArray[j]! =zs[j]:=by rw[getElem!_pos zs.toArray j (by simpa using J)];simp
 have e2:zs.toArray[j-1]! =zs[j-1]:=by rw[getElem!_pos zs.toArray (j-1) p5];simp
 unfold Lib.keeps at G;rw[decide_eq_true_eq,e1,e2]at G;have M:zs[j]≠zs[j-1]:=G.resolve_left nB;have L:=hp (j-1) j nB J nB;have E:zs[j-1]<zs[j]:=(J8 zs[j-1] zs[j]).elim id fun k=>k.elim (fun k=>absurd k.symm M) (fun k=>absurd k L);rw[e0,e1];by_cases N:i=j-1
 ·subst N;exact E
 ·have h2:=hp i (j-1) nB nB nB;rcases J8 zs[i] zs[j-1]with k|k|k
  ·exact L3 k E
  ·rw[k];exact E
  ·exact absurd k h2
def G1(l:List Str):List Str:=l.mergeSort fun x y=>decide (x<=y)
theorem RK(l:List Str):(G1 l).Pairwise (·<= ·):=by
 have h:=List.pairwise_mergeSort (le:=fun(x y:Str)=>decide (x<=y)) (fun a b c h1 h2=>by
  simp only[decide_eq_true_eq]at h1 h2 ⊢;exact List.le_trans h1 h2) (fun a b=>by
  simp only[Bool.or_eq_true,decide_eq_true_eq];exact List.le_total a b) l
 exact h.imp fun h=>of_decide_eq_true h
theorem Si{l:List Str}{u:Str}:u∈G1 l↔u∈l:=List.mem_mergeSort
theorem bD(l:List Str):Lib.compact (G1 l)=Bg [] l:=
 OM (WC (RK l)) (ML l List.Pairwise.nil) fun s=>by rw[cW,Si,Mn];simp
theorem Ze(l:List Str):l.map encStr=AO l:=rfl
theorem YS{ss:List Str}(h:w.ownsRow base 9 1 (.slice A n c) n (AO ss))(hn:n<=1000000):
 Calls prog 181 #[.slice A n c] w fun e w'=>e= .returned (.tuple #[])/\w'.ownsRow base 9 1 (.slice A n c) n (AO (G1 ss))/\w.grownBy w' (Value.slice A n c).ownBlock:=by
 rcases h.2 with ⟨hv,h0⟩|⟨g,M,cur,hv,j,hb,h1,h2,h3,h4⟩
 ·injection hv with e1 e2 e3;subst e1 e2 e3;have hs:ss= []:=by have:=h.1;simpa[AO]using this
  subst hs;refine(Tryz.slices_Sort_string_none none 0 w).mono ?_;rintro e w' ⟨rfl,rfl⟩;refine⟨rfl,?_,World.grownBy.refl _ _⟩;rw[show G1 []= [] by simp[G1]];exact AE _ _ _ _
 ·injection hv with e1 e2 e3;subst e1 e3;obtain⟨g',L,hA,N,J,E,Q,i,hH⟩:=Lib.holds_of_ownsRow (enc:=encStr) (zs:=ss) h pR;injection hA with hA1 hA2 hA3;injection hA1 with hA1;injection hA1 with hA1;subst hA1 hA3;have hD:=Tryz.slices_Sort_string g 0 c ss w hH J nB;rw[i]at hD;refine hD.mono ?_;rintro e w' ⟨rfl,nn,os,rfl⟩;have G:(G1 ss).length=ss.length:=List.length_mergeSort ss;subst i;exact⟨rfl,ownsRow_sorted (n:=nn) (os:=os) (ts:=G1 ss) G j hb h1 h2 h3,grownBy_sorted _⟩
theorem aK{ss:List Str}(h:w.ownsRow base 9 1 (.slice A n c) n (AO ss))(hn:n<=1000000):
 Calls prog 182 #[.slice A n c] w fun e w'=>e= .returned (.slice A (Lib.compact ss).length c)/\w'.ownsRow base 9 1 (.slice A (Lib.compact ss).length c) (Lib.compact ss).length (AO (Lib.compact ss))/\∀a,Below base a w->Below base a w':=by
 rcases h.2 with ⟨hv,h0⟩|⟨g,L,cur,hv,i,hb,h1,h2,h3,h4⟩
 ·injection hv with e1 e2 e3;subst e1 e2 e3;have hs:ss= []:=by have:=h.1;simpa[AO]using this
  subst hs;refine(Tryz.slices_Compact_string_empty none 0 w).mono ?_;rintro e w' ⟨rfl,rfl⟩;exact⟨rfl,AE _ _ _ _,fun a h=>h⟩
 ·injection hv with e1 e2 e3;subst e1 e3;obtain⟨g',G,hA,N,M,E,Q,j,hH⟩:=Lib.holds_of_ownsRow (enc:=encStr) (zs:=ss) h pR;injection hA with hA1 hA2 hA3;injection hA1 with hA1;injection hA1 with hA1;subst hA1 hA3;have hD:=Tryz.slices_Compact_string g 0 c ss w hH nB nB;rw[j]at hD;refine hD.mono ?_;rintro e w' ⟨rfl,q,rfl⟩;have J:=Lib.compact_length_le ss;have hc:=Lib.ownsRow_putRow (enc:=encStr) (q:=q) (k:=(Lib.compact ss).length) (ys:=Lib.compact ss++List.replicate (n-(Lib.compact ss).length) []) h p5 nB;rw[List.take_left]at hc;exact⟨rfl,hc,fun a h=>Lib.below_putRow h i⟩
def IV(ts:List Str)(w:World)(e:Ending)(w':World):Prop:=
 ∃v,e= .returned v/\w'.ownsRow w 9 1 v ts.length (AO ts)/\Below w w w'
theorem OL:∀ (l row:List UInt8),(split row l).length<=row.length+l.length
 | [],row=>by rw[split];have:=MU row;simpa using this
 |c :: t,row=>by
  rw[split];split
  ·have:=OL t (row++ [EM c]);simp at this ⊢;omega
  ·have h1:=OL t [];have h2:=MU row;rw[Aj,AI];simp at h1;omega
theorem J6(l:List UInt8):(words l).length<=l.length:=by have:=OL l [];simpa[words]using this
theorem YH(w:World)(tm lv:Int)(so tx:ByteArray)(hs:so.size<=50000)(ht:tx.size<=50000):
 Calls prog 106 #[.agg #[.int .u64 tm, .int .u8 lv, .string so, .string tx]] w (IV (Gc tx.data.toList so.data.toList) w):=by
 have D1:Hid (∀ (B:Nat) (a wx:World) (bo:Nat),Below B a wx->B<=a.heap.size->Blk wx bo 50 #[()]->B<=bo->Calls prog 178 #[.string tx,GN bo] wx (Jp idS [] tx B a bo)):=fun B a wx bo hb ha ho hl=>fX B a wx bo tx [] (.slice none 0 0) nB pR ht hb ha ho (AE _ _ _ _) hl;have D2:Hid (∀ (B:Nat) (a wx:World) (bo:Nat) (ws0:List Str) (v0:Value),ws0.length<=50000->Below B a wx->B<=a.heap.size->Blk wx bo 50 #[v0]->wx.ownsRow B 9 1 v0 ws0.length (AO ws0)->B<=bo->Calls prog 178 #[.string so,GM bo] wx (Jp atS ws0 so B a bo)):=fun B a wx bo ws0 v0 h0 hb ha ho hw hl=>d5 B a wx bo so ws0 v0 nB h0 hs hb ha ho hw hl;have hT:G2 tx.data.toList so.data.toList=(words tx.data.toList).map idS++(words so.data.toList).map atS:=by unfold G2;rw[show(words tx.data.toList).map idS=words tx.data.toList from List.map_id' _];rfl
 have ar:((words tx.data.toList).map idS).length<=50000:=by have:=J6 tx.data.toList;have h2:=Lib.size_eq tx;rw[Bk];omega
 have a0:((words so.data.toList).map atS).length<=50000:=by have:=J6 so.data.toList;have h2:=Lib.size_eq so;rw[Bk];omega
 have an:Gc tx.data.toList so.data.toList=Lib.compact (G1 ((words tx.data.toList).map idS++(words so.data.toList).map atS)):=by rw[bD,<-hT];rfl
 unfold IV;rw[an];unfold Jp at D1 D2;clear hT an hs ht;generalize (words tx.data.toList).map idS=W1 at *;generalize (words so.data.toList).map atS=W2 at *;unfold GN at D1;unfold GM at D2;obtain⟨WS,Y⟩:=jc (W1++W2);rw[<-Y];have aq:=hid Y;clear Y;go_enter func106,ntmps106;go_wp2_with fail;have af:Below w w (w.alloc (.cells #[.int .u64 tm, .int .u8 lv, .string so, .string tx] 43)):=cZ (Ak _ _);have ae:Blk (w.alloc (.cells #[.int .u64 tm, .int .u8 lv, .string so, .string tx] 43)) w 43 #[.int .u64 tm, .int .u8 lv, .string so, .string tx]:=Blk.made _ _ _;have am:(w.alloc (.cells #[.int .u64 tm, .int .u8 lv, .string so, .string tx] 43)).heap.size=w.heap.size+1:=pR
 generalize w.alloc (.cells #[.int .u64 tm, .int .u8 lv, .string so, .string tx] 43)=wa at *;have j:Below wa wa (wa.alloc (.cells #[()] 50)):=cZ (Ak _ _);have ai:Blk (wa.alloc (.cells #[()] 50)) wa 50 #[()]:=Blk.made _ _ _;rw[<-am];have E1:=hid (D1.out wa wa _ wa j (Am _) ai (Am _));have ay:=hid af;have ah:=hid ae;clear D1 j ai af ae am;obtain⟨B,hB⟩:=jc wa.heap.size;have ak:B<=wa.heap.size:=nB
 rw[<-hB]at E1 ⊢;have Q:Hid (w.heap.size<B):=by show _<_;rw[hB];exact ah.out.lt
 have az:=hid hB;clear hB;refine E1.out.mono ?_;rintro e w1 ⟨rfl,j,v1,E,Z⟩;have ax:Hid (w1.ownsRow B 9 1 v1 W1.length (AO W1)):=Z;have al:=hid E;have ac:=hid j;have E2:=hid (D2.out B wa w1 B W1 v1 ar j ak E Z (Am _));have c2:w1.cell? ⟨w,2,none⟩=some (.string so):=(ac.out.cell (p:=⟨w,2,none⟩) Q.out).trans (ah.out.cell 2);clear E1 D2 j E Z;go_wp2_with fail;refine E2.out.mono ?_;rintro e w2 ⟨rfl,aa,v2,i,G⟩;obtain⟨A2,c3,rfl⟩:=aZ G;have k0:=i.iy 0;have L:(W1++W2).length<=1000000:=nU
 rw[<-aq.out]at L k0 i G;have E3:=hid (YS G L);have h:=hid i;have N:=hid aa;have J:=hid G;obtain⟨n,hn⟩:=jc WS.length;rw[<-hn]at k0 E3 J L h;have HN:=hid hn;clear E2 c2 aa i G ax al ac hn;go_wp2_with fail;refine E3.out.mono ?_;rintro e w3 ⟨rfl,aj,U⟩;have M:=h.out.grown U (fun e=>iZ J.out h.out ji e.symm);have k3:=M.iy 0;have au:Hid (Below B wa w3):=N.out.grown U (Bm ak N.out.size) (fun y hy=>(Ai J.out y hy).1);have E4:=hid (aK aj L);clear E3 aj U M k0 N J h;go_wp2_with fail;refine E4.out.mono ?_;rintro e w4 ⟨rfl,ag,ab⟩;have av:Hid (Below w w w4):=ay.out.trans ((ab wa au.out).mono (Nat.le_of_lt Q.out));have aw:=hid (lZ ag (Nat.le_of_lt Q.out));clear E4 ag ab;go_wp2_with fail;go_ret;exact⟨_,rfl,aw.out,av.out⟩
end Idx
namespace Idx
open Go.RowKit Mem Own Canon Sift
open Crc (FB)
section
variable {w:World} {base n c s:Nat} {e:TypeId} {A:Option Addr} {xs:List Value}
theorem src_head(h:w.ownsRow base e 1 (.slice A n c) n xs)(m:Nat)(hm:m<=n):Src w A m c 1 (xs.take m):=by
 have hl:=h.1;refine⟨by rw[Bc,hl];omega,?_⟩;rcases h.2 with ⟨hv,h0⟩|⟨g,i,cur,hv,_⟩
 ·injection hv with e1 e2 e3;subst e1 e2 e3;exact .inl ⟨rfl,nB,rfl⟩
 ·injection hv with e1 e2 e3;subst e1 e3;refine .inr ⟨_,rfl,fun j u hu=> ?_⟩;have hj:j<m:=by have:=(BS.1 hu).1;rw[Bc]at this;omega
  rw[Mem.add_none,B0,h.cellAt j nB]
  rwa [Gn,Ag hj]at hu
theorem Rt(h:w.ownsRow base e 1 (.slice A n c) n xs)(k:Nat)(hk:k<=n):Src w (Ba A k c 1) (n-k) (c-k) 1 (xs.drop k):=by
 have hl:=h.1;refine⟨by rw[AZ,hl];omega,?_⟩;rcases h.2 with ⟨hv,h0⟩|⟨g,E,cur,hv,_,_,hc,_⟩
 ·injection hv with e1 e2 e3;subst e1 e2 e3;obtain rfl:k=0:=by omega
  exact .inl ⟨rfl,rfl,rfl⟩
 ·injection hv with e1 e2 e3;subst e1 e3;have i:∀j u,(xs.drop k)[j]? =some u->w.cell? ⟨g,k+j,none⟩=some u:=fun j u hu=>by rw[FX]at hu;have hj:=(BS.1 hu).1;rw[h.cellAt (k+j) nB];exact hu
  unfold Ba;split
  ·refine .inr ⟨_,rfl,fun j u hu=> ?_⟩;have hj:=(BS.1 hu).1;rw[AZ]at hj;omega
  ·exact .inr ⟨_,rfl,fun j u hu=>by show w.cell? (Addr.add (Addr.add ⟨g,0,none⟩ (k*1)) j)=_;rw[Mem.add_none,Mem.add_none,B0,EK];exact i j u hu⟩
theorem Rc(h:w.ownsRow base e 1 (.slice A n c) n xs):n<=c/\∀a,A=some a->a.add 0=a:=by
 rcases h.2 with ⟨hv,h0⟩|⟨g,i,cur,hv,_,_,hc,_⟩
 ·injection hv with e1 e2 e3;subst e1 e2 e3;exact⟨Am _,fun a ha=>by cases ha⟩
 ·injection hv with e1 e2 e3;subst e1 e3;exact⟨hc,fun a ha=>by injection ha with ha;subst ha;exact Mem.add_none _ _ _⟩
end
theorem JR(l:List Str):∀u∈AO l,u.oneCell'=true:=by intro u hu;obtain⟨x,_,rfl⟩:=Cl.1 hu;rfl
theorem Ip{l:List Str}{i:Nat}{x:Str}(h:l[i]? =some x):(AO l)[i]? =some (.string (bs x)):=by simp[AO,h]
theorem P5(a b:List Str):AO (a++b)=AO a++AO b:=by simp[AO]
theorem R5(a:List Str)(k:Nat):(AO a).take k=AO (a.take k):=by simp[AO,List.map_take]
theorem RO(a:List Str)(k:Nat):(AO a).drop k=AO (a.drop k):=by simp[AO,List.map_drop]
theorem PX(a:List Str):(AO a).length=a.length:=by simp[AO]
theorem Nu(x s:Str):Op.bytesLess (bs x).toList (bs s).toList=decide (x<s):=by rw[GZ,GZ,IB,IB,bytesLess_eq]
theorem str_eq(x s:Str):((bs x).toList==(bs s).toList)=decide (x=s):=by rw[GZ,GZ,IB,IB];exact JI.2 pR
def J5(ts:List Str)(base:Nat)(w:World)(e:Ending)(w':World):Prop:=
 ∃v,e= .returned v/\w'.ownsRow base 9 1 v ts.length (AO ts)/\Below w w w'
theorem OF(w:World)(base:Nat)(A:Option Addr)(n c:Nat)(ls:List Str)(s:Str)(hn:ls.length=n)(hN:n<=3000000000)(ai:base<=w.heap.size)(au:w.ownsRow base 9 1 (.slice A n c) n (AO ls)):
 Calls prog 69 #[.slice A n c, .string (bs s)] w (J5 (Dw ls s) base w):=by
 obtain⟨j0,aa,U,Y,Z⟩:=info_parts LG;have HN:=hid hn;have HO:=hid au;obtain⟨ba,N⟩:=Rc au;have HP:Hid (∀k,k<=ls.length->(∀i,(h:i<k)->(h':i<ls.length)->ls[i]<s)->(∀x,ls[k]? =some x->¬x<s)->Dw ls s=if ls[k]? =some s then ls else ls.take k++s :: ls.drop k):=Un s ls;unfold J5;generalize Dw ls s=R at *;clear hn au;go_enter func69,ntmps69;go_wp2_with fail;go_loopw [5] (fun iv wx=>∃k:Nat,k<=n/\iv= .int .i64 k/\Hid (∀i,(h:i<k)->(h':i<ls.length)->ls[i]<s)/\wx=w) (fun iv _=>n-(intOf iv).toNat)
 case atStart=>exact⟨0,nB,rfl,fun i h=>absurd h nB,rfl⟩
 case round=>
  obtain⟨k,hk,rfl,HS,rfl⟩:=hrel;by_cases bc:k<n
  ·have gk:=ja ((k:Int)<n);have a6:=ja (k<n);have x0:(0:Int)<=(k:Int):=nB;have x1:(k:Int)<(n:Int):=nB;obtain⟨g,cg,a4,bb,_⟩:=HO.out.form nB;injection a4 with hA1 hA2 hA3;subst hA1 hA3;obtain⟨x,hx⟩:∃x,ls[k]? =some x:=⟨_,AD mR⟩;have ck:wr.cell? ⟨g,k,none⟩=some (.string (bs x)):=(by rw[HO.out.cellAt k nB];exact Ip hx);have HX:=hid hx;clear hx;by_cases Q:x<s
   ·have gx:Op.bytesLess (bs x).toList (bs s).toList=true:=by rw[Nu];simpa using Q
    have L:Hid (∀i,(h:i<k+1)->(h':i<ls.length)->ls[i]<s):=fun i h h'=>by
     by_cases e:i<k
     ·exact HS.out i e h'
     ·obtain rfl:i=k:=by omega
      have:=HX.out;rw[AD h']at this;injection this with this;rw[this];exact Q
    have s2:IntKind.i64.wrap ((k:Int)+1)=((k+1:Nat):Int):=nX;clear HS Q;go_wp2_with fail;go_roundw
    case measure=>exact ld
    case rel=>go_light;exact⟨k+1,nB,jk,L.out,jm⟩
   ·have gx:Op.bytesLess (bs x).toList (bs s).toList=false:=(by rw[Nu];simpa using Q);have M:Hid (∀y,ls[k]? =some y->¬y<s):=fun y hy=>by have h:=HX.out;rw[hy]at h;injection h with h;rw[h];exact Q
    clear Q;by_cases he:x=s
    ·have ge:((bs x).toList==(bs s).toList)=true:=pB;have HR:Hid (R=ls):=(by have h:=HP.out k mR HS.out M.out;rw[Ag (by rw[HX.out,he])]at h;exact h);clear HP HS M HX he;go_wp2_with fail;go_ret;exact⟨_,rfl,by rw[HR.out,HN.out];exact HO.out,Ak _ _⟩
    ·have ge:((bs x).toList==(bs s).toList)=false:=pB;have al:Hid (¬ls[k]? =some s):=fun h=>by have h2:=HX.out;rw[h]at h2;injection h2 with h2;exact he h2.symm
     clear HX he;have HR:Hid (R=ls.take k++s :: ls.drop k):=ly;have a3:=fun wx=>FB (P:=prog) (t:=50) (s:=1) underlying50 (fun _=>by kernel_rfl) (some ⟨g,0,none⟩) n c .i64 (k:Int) k rfl nB N wx;have a1:=fun wx=>Gg (P:=prog) (t:=50) (s:=1) underlying50 (fun _=>by kernel_rfl) (some ⟨g,0,none⟩) n c .i64 (k:Int) k rfl hk wx;have av:Hid (Src wr (some ⟨g,0,none⟩) k c 1 (AO (ls.take k))):=(by rw[<-R5];exact src_head HO.out k hk);have L:Hid (∀wx,Below wr wr wx->Src wx (Ba (some ⟨g,0,none⟩) k c 1) (n-k) (c-k) 1 (AO (ls.drop k))):=fun wx hb=>nG
     generalize Ba (some ⟨g,0,none⟩) k c 1=A5 at *;generalize c-k=c5 at *;obtain⟨m5,aj⟩:=jc (n-k);rw[<-aj]at L a1;have an:k+m5=n:=nB;have ax:=hid an;have a5:k+1+m5<=3000000001:=nB;have a9:k<=3000000000:=nB;clear HP HS M al N HO aj an;go_wp2_with(first|(at_builtin;refine fZ rfl (.tmp 34) (.tmp 37) 50 rfl wr 9 j0 _ 1 16 underlying50 aa U Y Z rfl ji (.slice none 0 0) 0 [] nC (AE _ _ _ _) _ _ _ _ nC av.out (JR _) qn nB (Am _) ?_;intro v4 w4 j af aq;obtain⟨A4,k4,rfl⟩:=aZ j;have ar:Hid (Below wr wr w4):=(Ak _ _).grown af (Am _) (fun y hy=>by cases hy);have a0:=ar.out.size;rw[B0,Ey]at j;have ae:=hid j;clear j af aq)|(at_builtin;refine fZ rfl (.tmp 39) (.tmp 41) 50 rfl wr 9 j0 _ 1 16 underlying50 aa U Y Z rfl ji _ _ _ nC (ae.out.alloc _) _ 1 1 [.string (bs s)] nC (Src.of_blk (Blk.made _ _ _) 1 1 1 rfl) mY qn nB p5 ?_;intro v6 w6 E ac ab;obtain⟨A6,k6,rfl⟩:=aZ E;have J:Hid (Below wr wr w6):=(mZ a0 ar.out).grown ac p5 (fun y hy=>(Ai ae.out y hy).1);have ak:=J.out.size;have ah:=hid E;have az:=hid (L.out _ J.out);clear E ac ab)|(at_builtin;refine fZ rfl (.tmp 43) (.tmp 46) 50 rfl wr 9 j0 _ 1 16 underlying50 aa U Y Z rfl ji _ _ _ nC ah.out _ _ _ _ nC az.out (JR _) qn nB ak ?_;intro v8 w8 G am ag;have ay:Hid (Below wr wr w8):=J.out.grown am ak (fun y hy=>(Ai ah.out y hy).1);have aw:=hid G;clear G am ag));go_ret;refine⟨_,rfl,?_,ay.out⟩;have h:=lZ aw.out ai;rw[HR.out];have e1:(AO (ls.take k)++ [.string (bs s)]++AO (ls.drop k))=AO (ls.take k++s :: ls.drop k):=by simp[AO]
     have e2:(ls.take k++s :: ls.drop k).length=k+1+m5:=lp;rw[e2,<-e1];exact h
  ·have gk:=jb ((k:Int)<n);have a6:=jb (k<n);have M:Hid (∀y,ls[k]? =some y->¬y<s):=fun y hy=>by rw[FO oA]at hy;cases hy
   have al:Hid (¬ls[k]? =some s):=(by show ¬_;rw[FO oA];simp);have HR:Hid (R=ls.take k++s :: ls.drop k):=ly;have a3:=fun wx=>FB (P:=prog) (t:=50) (s:=1) underlying50 (fun _=>by kernel_rfl) A n c .i64 (k:Int) k rfl nB N wx;have a1:=fun wx=>Gg (P:=prog) (t:=50) (s:=1) underlying50 (fun _=>by kernel_rfl) A n c .i64 (k:Int) k rfl hk wx;have av:Hid (Src wr A k c 1 (AO (ls.take k))):=(by rw[<-R5];exact src_head HO.out k hk);have L:Hid (∀wx,Below wr wr wx->Src wx (Ba A k c 1) (n-k) (c-k) 1 (AO (ls.drop k))):=fun wx hb=>nG
   generalize Ba A k c 1=A5 at *;generalize c-k=c5 at *;obtain⟨m5,aj⟩:=jc (n-k);rw[<-aj]at L a1;have an:k+m5=n:=nB;have ax:=hid an;have a5:k+1+m5<=3000000001:=nB;have a9:k<=3000000000:=nB;clear HP HS M al N HO aj an;go_wp2_with(first|(at_builtin;refine fZ rfl (.tmp 34) (.tmp 37) 50 rfl wr 9 j0 _ 1 16 underlying50 aa U Y Z rfl ji (.slice none 0 0) 0 [] nC (AE _ _ _ _) _ _ _ _ nC av.out (JR _) qn nB (Am _) ?_;intro v4 w4 j af aq;obtain⟨A4,k4,rfl⟩:=aZ j;have ar:Hid (Below wr wr w4):=(Ak _ _).grown af (Am _) (fun y hy=>by cases hy);have a0:=ar.out.size;rw[B0,Ey]at j;have ae:=hid j;clear j af aq)|(at_builtin;refine fZ rfl (.tmp 39) (.tmp 41) 50 rfl wr 9 j0 _ 1 16 underlying50 aa U Y Z rfl ji _ _ _ nC (ae.out.alloc _) _ 1 1 [.string (bs s)] nC (Src.of_blk (Blk.made _ _ _) 1 1 1 rfl) mY qn nB p5 ?_;intro v6 w6 E ac ab;obtain⟨A6,k6,rfl⟩:=aZ E;have J:Hid (Below wr wr w6):=(mZ a0 ar.out).grown ac p5 (fun y hy=>(Ai ae.out y hy).1);have ak:=J.out.size;have ah:=hid E;have az:=hid (L.out _ J.out);clear E ac ab)|(at_builtin;refine fZ rfl (.tmp 43) (.tmp 46) 50 rfl wr 9 j0 _ 1 16 underlying50 aa U Y Z rfl ji _ _ _ nC ah.out _ _ _ _ nC az.out (JR _) qn nB ak ?_;intro v8 w8 G am ag;have ay:Hid (Below wr wr w8):=J.out.grown am ak (fun y hy=>(Ai ah.out y hy).1);have aw:=hid G;clear G am ag));go_ret;refine⟨_,rfl,?_,ay.out⟩;have h:=lZ aw.out ai;rw[HR.out];have e1:(AO (ls.take k)++ [.string (bs s)]++AO (ls.drop k))=AO (ls.take k++s :: ls.drop k):=by simp[AO]
   have e2:(ls.take k++s :: ls.drop k).length=k+1+m5:=lp;rw[e2,<-e1];exact h
end Idx
namespace Idx
open Go.RowKit Mem Own Canon Sift
theorem ON{W:List Str}{x:Str}(i:List Str)(h:W[k]? =some x):Bg i (W.take (k+1))=Dw (Bg i (W.take k)) x:=by rw[Ca,h];exact iP _ _ _
theorem zX(s:Str):∀l,(Dw l s).length<=l.length+1
 | []=>by simp[Dw]
 |x :: t=>by
  have:=zX s t;rw[Dw];split
  ·simp only[List.length_cons];omega
  ·split<;>simp
theorem Mc:∀ (l h:List Str),(Bg h l).length<=h.length+l.length
 | [],h=>by simp[Bg]
 |x :: t,h=>by have h1:=Mc t (Dw h x);have h2:=zX x h;unfold Bg at h1 ⊢;rw[List.foldl_cons,AI];omega
theorem Lb:∀ (l row:List UInt8),∀x∈split row l,1<=x.length/\x.length<=24
 | [],row,x,hx=>by
  rw[split]at hx;unfold tell at hx;split at hx
  ·cases hx
  ·rename_i h;have:=FW.2 h;obtain rfl:x=row.take 24:=by simpa using hx
   rw[Bc];omega
 |c :: t,row,x,hx=>by
  rw[split]at hx;split at hx
  ·exact Lb t _ x hx
  ·rcases Bx.1 hx with hx|hx
   ·exact Lb [] row x (by rw[split];exact hx)
   ·exact Lb t [] x hx
theorem OG(l:List UInt8):∀x∈words l,1<=x.length/\x.length<=24:=Lb l []
theorem Yq(w:World)(tm lv:Int)(so tx:ByteArray)(hs:so.size<=50000)(ht:tx.size<=50000):
 Calls prog 68 #[.agg #[.int .u64 tm, .int .u8 lv, .string so, .string tx]] w (IV (Gc tx.data.toList so.data.toList) w):=by
 have D1:=hid (fun wx=>Qt wx tx nB);have D2:=hid (fun wx=>Qt wx so nB);have bb:(words tx.data.toList).length<=50000:=by have:=J6 tx.data.toList;have h2:=Lib.size_eq tx;omega
 have a9:(words so.data.toList).length<=50000:=by have:=J6 so.data.toList;have h2:=Lib.size_eq so;omega
 have hT:Gc tx.data.toList so.data.toList=Bg (Bg [] (words tx.data.toList)) ((words so.data.toList).map (EE :: ·)):=by unfold Gc G2;rw[bJ]
 have aw:Hid (∀x∈words so.data.toList,x.length<=24):=fun x hx=>(OG _ x hx).2;unfold OQ at D1 D2;unfold IV;generalize words tx.data.toList=W1 at *;generalize words so.data.toList=W2 at *;obtain⟨TS,aj⟩:=jc (Gc tx.data.toList so.data.toList);rw[<-aj]at hT ⊢;have HT:=hid hT;have ba:so.size<=50000:=hs;clear hT aj hs ht;go_enter func68,ntmps68;go_wp2_with fail;have ai:Below w w (w.alloc (.cells #[.int .u64 tm, .int .u8 lv, .string so, .string tx] 43)):=cZ (Ak _ _);have ar:Blk (w.alloc (.cells #[.int .u64 tm, .int .u8 lv, .string so, .string tx] 43)) w 43 #[.int .u64 tm, .int .u8 lv, .string so, .string tx]:=Blk.made _ _ _;generalize w.alloc (.cells #[.int .u64 tm, .int .u8 lv, .string so, .string tx] 43)=wa at *;refine(D1.out _).mono ?_;rintro e w1 ⟨v1,rfl,Y,ae⟩;obtain⟨A1,c1,rfl⟩:=aZ Y;have L:=hid Y;have Z:Hid (Below w w w1):=dZ ae ai;have an:=hid (ar.step ae);clear Y ae ai ar D1;go_wp2_with fail;go_loopw [3,5] (fun u iv wr=>∃ (k n:Nat),k<=W1.length/\n<=0+k/\iv= .int .i64 k/\Hid ((Bg [] (W1.take k)).length=n)/\Hid (wr.ownsRow w1 9 1 u n (AO (Bg [] (W1.take k))))/\Hid (Below w1 w1 wr)) (fun _ iv _=>W1.length-(intOf iv).toNat)
 case atStart=>exact⟨0,0,nB,nB,rfl,rfl,AE _ _ _ _,Ak _ _⟩
 case round=>
  obtain⟨k,n,hk,hn,rfl,HL,HO,HB⟩:=hrel;have hz:=HB.out.size;by_cases N:k<W1.length
  ·obtain⟨x,hx⟩:∃x,W1[k]? =some x:=⟨_,AD N⟩;have G:=hid (ON (W:=W1) (k:=k) [] (show W1[k]? =some x by exact hx));have gk:=ja ((k:Int)<W1.length);have af:=ja (k<W1.length);have x0:(0:Int)<=(k:Int):=nB;have x1:(k:Int)<(W1.length:Int):=nB;obtain⟨g,cg,ac,ax,_⟩:=L.out.form nB;injection ac with hA1 hA2 hA3;subst hA1 hA3;have ck:wr.cell? ⟨g,k,none⟩=some (.string (bs x)):=(by have h:=L.out.cellAt k nB;rw[<-Ip hx,<-h];exact HB.out.cell (p:=⟨g,k,none⟩) (Ai L.out g rfl).2);obtain⟨A,c,rfl⟩:=aZ HO.out;have i:=zX x (Bg [] (W1.take k));rw[HL.out]at i;have D:=hid (OF wr w1 A n c (Bg [] (W1.take k)) x HL.out nB hz HO.out);unfold J5 at D;rw[<-G.out]at D i;have s2:IntKind.i64.wrap ((k:Int)+1)=((k+1:Nat):Int):=nX;obtain⟨R,hR⟩:=jc (Bg [] (W1.take (k+1)));rw[<-hR]at D i;have HR:=hid hR;clear hx G hR;go_wp2_with fail;refine D.out.mono ?_;rintro e w4 ⟨v4,rfl,j,E⟩;obtain⟨A4,c4,rfl⟩:=aZ j;have U:=hid j;have ag:Hid (Below w1 w1 w4):=dZ E HB.out;clear j E D HO HB;go_wp2_with fail;go_roundw
   case measure=>exact ld
   case rel=>exact ka
  ·obtain rfl:k=W1.length:=by omega
   have gk:=jb ((W1.length:Int)<W1.length);have af:=jb (W1.length<W1.length);have h1:W1.take W1.length=W1:=List.take_length;rw[h1]at HL HO;have c2:=(an.out.step HB.out).iy 2;have aa:=Mc W1 [];rw[HL.out]at aa;simp only[List.length_nil]at aa;obtain⟨q1,al⟩:=jc n;have a4:q1<=50000:=nB;rw[<-al]at HL HO;obtain⟨w3,rfl⟩:=jc wr;have ak:Hid (Below w w w3):=dZ HB.out Z.out;have aq:=hid HL.out;have J:=hid HO.out;have au:=HB.out.size;obtain⟨A0,c0,rfl⟩:=aZ J.out;have ay:=hid Z.out.size;clear h1 al aa HL HO HB an Z N hn hk L;go_wp2_with fail;refine(D2.out _).mono ?_;rintro e w5 ⟨v2,rfl,ab,M⟩;obtain⟨A2,a5,rfl⟩:=aZ ab;have Q:=hid ab;have am:Hid (Below w w w5):=dZ M ak.out;have az:Hid (w5.ownsRow w1 9 1 (.slice A0 q1 c0) q1 (AO (Bg [] W1))):=eZ J.out (fun y hy=>M.block y (Ai J.out y hy).2);have a3:Hid ((Bg (Bg [] W1) ((W2.map (EE :: ·)).take 0)).length=q1):=aq.out;have ah:w1.heap.size<=w5.heap.size:=Bm au M.size;have a0:w.heap.size<=w1.heap.size:=ay.out;clear ab M D2 c2 J aq;go_wp2_with fail;go_loopw [3,6] (fun u iv wr=>∃ (k n:Nat),k<=W2.length/\n<=50000+k/\iv= .int .i64 k/\Hid ((Bg (Bg [] W1) ((W2.map (EE :: ·)).take k)).length=n)/\Hid (wr.ownsRow w1 9 1 u n (AO (Bg (Bg [] W1) ((W2.map (EE :: ·)).take k))))/\Hid (Below w5 w5 wr)) (fun _ iv _=>W2.length-(intOf iv).toNat)
   case atStart=>exact⟨0,q1,nB,nB,rfl,a3.out,(by show World.ownsRow _ _ _ _ _ _ _;rw[List.take_zero];exact az.out),Ak _ _⟩
   case round=>
    obtain⟨k,n,hk,hn,rfl,HL,HO,HB⟩:=hrel;have hz:=HB.out.size;by_cases N:k<W2.length
    ·obtain⟨x,hx⟩:∃x,W2[k]? =some x:=⟨_,AD N⟩;have G:=hid (ON (W:=(W2.map (EE :: ·))) (k:=k) (Bg [] W1) (show(W2.map (EE :: ·))[k]? =some (EE :: x) by rw[BR,hx];rfl));have gk:=ja ((k:Int)<W2.length);have af:=ja (k<W2.length);have x0:(0:Int)<=(k:Int):=nB;have x1:(k:Int)<(W2.length:Int):=nB;obtain⟨g,cg,ac,ax,_⟩:=Q.out.form nB;injection ac with hA1 hA2 hA3;subst hA1 hA3;have ck:wr.cell? ⟨g,k,none⟩=some (.string (bs x)):=(by have h:=Q.out.cellAt k nB;rw[<-Ip hx,<-h];exact HB.out.cell (p:=⟨g,k,none⟩) (Ai Q.out g rfl).2);have kc:=Ty x;have a6:(bs x).size<=100000:=(by rw[Dr];have:=aw.out x (AY hx);omega);obtain⟨A,c,rfl⟩:=aZ HO.out;have i:=zX (EE :: x) (Bg (Bg [] W1) ((W2.map (EE :: ·)).take k));rw[HL.out]at i;have D:=hid (OF wr w1 A n c (Bg (Bg [] W1) ((W2.map (EE :: ·)).take k)) (EE :: x) HL.out nB (Bm ah hz) HO.out);unfold J5 at D;rw[<-G.out]at D i;have s2:IntKind.i64.wrap ((k:Int)+1)=((k+1:Nat):Int):=nX;obtain⟨R,hR⟩:=jc (Bg (Bg [] W1) ((W2.map (EE :: ·)).take (k+1)));rw[<-hR]at D i;have HR:=hid hR;clear hx G hR;go_wp2_with fail;refine D.out.mono ?_;rintro e w4 ⟨v4,rfl,j,E⟩;obtain⟨A4,c4,rfl⟩:=aZ j;have U:=hid j;have ag:Hid (Below w5 w5 w4):=dZ E HB.out;clear j E D HO HB;go_wp2_with fail;go_roundw
     case measure=>exact ld
     case rel=>exact ka
    ·obtain rfl:k=W2.length:=by omega
     have gk:=jb ((W2.length:Int)<W2.length);have af:=jb (W2.length<W2.length);have h2:(W2.map (EE :: ·)).take W2.length=W2.map (EE :: ·):=Bp (by rw[Bk];exact Am _);rw[h2,<-HT.out]at HL HO;have av:Hid (Below w w wr):=dZ HB.out am.out;have a1:Hid (wr.ownsRow w 9 1 u3 n (AO TS)):=lZ HO.out a0;clear h2 HO HB HT;go_wp2_with fail;go_ret;exact⟨_,rfl,by rw[HL.out];exact a1.out,av.out⟩
end Idx
namespace Idx
open Go.RowKit Mem Own Canon Sift
def Ei(ls:List Str)(i _j:Nat):Value:= .string (bs (ls.getD i []))
theorem Yz(l:List Str)(i j:Nat)(hi:i<l.length)(hj:j<1):(AO l)[i*1+j]? =some (Ei l i j):=by
 obtain rfl:j=0:=nB
 rw[EK,Cw];unfold Ei;rw[Aq,AD hi];exact Ip (AD hi)
theorem Io{l:List Str}(h:w.ownsRow base 9 1 (.slice A n c) n (AO l)):Row w w A n 1 (Ei l):=
 Row.of_own h rfl fun i j hi hj=>Yz l i j (by have:=h.1;rw[PX]at this;omega) hj
theorem Row.str{B:Nat}{l:List Str}(h:Row w B A n 1 (Ei l))(hn:l.length=n)(hk:k<n):
 ∃b i x,A=some ⟨b,i,none⟩/\b<B/\l[k]? =some x/\w.cell? ⟨b,i+k,none⟩=some (.string (bs x)):=by
 obtain⟨b,i,rfl,hb,hc⟩:=h nB;have c0:=hc k 0 hk nB;rw[EK,Cw]at c0;unfold Ei at c0;rw[Aq,AD (show k<l.length by omega)]at c0;exact⟨b,i,_,rfl,hb,AD nB,c0⟩
theorem QY(w:World)(A:Option Addr)(n c:Nat)(ls:List Str)(s:Str)(hn:ls.length=n)(hN:n<=1000000)(ha:Row w w A n 1 (Ei ls)):
 Calls prog 70 #[.slice A n c, .string (bs s)] w fun e w'=>e= .returned (.bool (ls.contains s))/\w'=w:=by
 have HN:=hid hn;have HY:Hid (∀k:Nat,ls[k]? =some s->ls.contains s=true):=fun k h=>by rw[List.contains_iff_mem];exact AY h
 have j:Hid ((∀ (i:Nat) (x:Str),ls[i]? =some x->x≠s)->ls.contains s=false):=fun(h:∀ (i:Nat) (x:Str),ls[i]? =some x->x≠s)=>by rw[IF];intro hc;rw[List.contains_iff_mem]at hc;obtain⟨i,hi,e⟩:=List.getElem_of_mem hc;exact h i _ (AD hi) e
 generalize ls.contains s=R at *;clear hn;go_enter func70,ntmps70;go_wp2_with fail;go_loopw [5] (fun iv wx=>∃k:Nat,k<=n/\iv= .int .i64 k/\Hid (∀ (i:Nat) (x:Str),i<k->ls[i]? =some x->x≠s)/\wx=w) (fun iv _=>n-(intOf iv).toNat)
 case atStart=>exact⟨0,nB,rfl,fun i x h=>absurd h nB,rfl⟩
 case round=>
  obtain⟨k,hk,rfl,HS,rfl⟩:=hrel;by_cases E:k<n
  ·have gk:=ja ((k:Int)<n);have J:=ja (k<n);have x0:(0:Int)<=(k:Int):=nB;have x1:(k:Int)<(n:Int):=nB;obtain⟨b,L,x,rfl,_,hx,ck⟩:=Row.str ha HN.out E;by_cases he:x=s
   ·have ge:((bs x).toList==(bs s).toList)=true:=pB;have hr:=HY.out k (by rw[hx,he]);subst hr;clear HS hx he HY j;go_wp2_with fail;go_ret;exact⟨rfl,rfl⟩
   ·have ge:((bs x).toList==(bs s).toList)=false:=by rw[str_eq];simpa using he
    have G:Hid (∀i y,i<k+1->ls[i]? =some y->y≠s):=fun i y h hy=>by
     by_cases e:i<k
     ·exact HS.out i y e hy
     ·obtain rfl:i=k:=by omega
      rw[hx]at hy;injection hy with hy;rw[<-hy];exact he
    have s2:IntKind.i64.wrap ((k:Int)+1)=((k+1:Nat):Int):=nX;clear HS hx he;go_wp2_with fail;go_roundw
    case measure=>exact ld
    case rel=>go_light;exact⟨k+1,nB,jk,G.out,jm⟩
  ·obtain rfl:k=n:=by omega
   have gk:=jb ((k:Int)<k);have J:=jb (k<k);have hr:=j.out (fun i x hx=>HS.out i x (by have:=(BS.1 hx).1;have:=HN.out;omega) hx);subst hr;clear HS HY j E;go_wp2_with fail;go_ret;exact⟨rfl,rfl⟩
end Idx
namespace Idx
open Go.RowKit Mem Own Canon Sift
theorem ZZ(w:World)(A A2:Option Addr)(n n2 c c2:Nat)(ls ms:List Str)(hn:ls.length=n)(N:ms.length=n2)(hN:n<=3000000000)(ha:Row w w A n 1 (Ei ls))(U:Row w w A2 n2 1 (Ei ms)):
 Calls prog 66 #[.slice A n c, .slice A2 n2 c2] w fun e w'=>e= .returned (.bool (decide (ls=ms)))/\∃q,w'=w.drewN q:=by
 have HN:=hid hn;have aa:=hid N
 have HY:Hid (n=n2->(∀i,i<n->ls.getD i []=ms.getD i [])->decide (ls=ms)=true):=fun he h=>AQ (List.ext_getElem nB fun i h1 h2=>by
  have:=h i nB
  rwa [Aq,Aq,AD h1,AD h2]at this)
 have E:Hid (∀ (i:Nat) x y,ls[i]? =some x->ms[i]? =some y->x≠y->decide (ls=ms)=false):=fun i x y hx hy hne=>AV fun e=>oY
 have G:Hid (n≠n2->decide (ls=ms)=false):=fun hne=>AV fun e=>by rw[e]at hn;omega
 generalize decide (ls=ms)=R at *;clear hn N;by_cases he:n=n2
 ·have z1:((n:Int) != (n2:Int))=false:=by simp;omega
  have Z:(n != n2)=false:=qj
  clear G;go_enter func66,ntmps66;go_wp2_with fail;go_loopw [5] (fun iv wx=>∃k:Nat,k<=n/\iv= .int .i64 k/\Hid (∀i,i<k->ls.getD i []=ms.getD i [])/\Hid (∃q,wx=w.drewN q)) (fun iv _=>n-(intOf iv).toNat)
  case atStart=>exact⟨0,nB,rfl,fun i h=>absurd h nB,0,rfl⟩
  case round=>
   obtain⟨k,hk,rfl,HS,HQ⟩:=hrel;by_cases M:k<n
   ·have gk:=ja ((k:Int)<n);have Y:=ja (k<n);have x0:(0:Int)<=(k:Int):=nB;have x1:(k:Int)<(n:Int):=nB;have x2:(k:Int)<(n2:Int):=nB;have ab:Row wr w A n 1 (Ei ls):=nw;have L:Row wr w A2 n2 1 (Ei ms):=(by obtain⟨q,hq⟩:=HQ.out;rw[hq];exact U);obtain⟨b,af,x,rfl,_,hx,ck⟩:=Row.str ab HN.out M;obtain⟨b2,ac,y,rfl,_,hy,ae⟩:=Row.str L aa.out (show k<n2 by omega);have J:Hid (∀nq,∃q,wr.drewN nq=w.drewN q):=fun nq=>by obtain⟨q,hq⟩:=HQ.out;exact⟨_,ph⟩
    by_cases j:x=y
    ·have ge:((bs x).toList==(bs y).toList)=true:=by rw[str_eq];simpa using j
     have Q:Hid (∀i,i<k+1->ls.getD i []=ms.getD i []):=fun i h=>by
      by_cases e:i<k
      ·exact HS.out i e
      ·obtain rfl:i=k:=by omega
       rw[Aq,Aq,hx,hy,j]
     clear HS hx hy j HQ he;go_wp2_with fail;go_quiet (fail);go_wp2_with fail;go_roundw
     case measure=>exact ld
     case rel=>exact kj
    ·have ge:((bs x).toList==(bs y).toList)=false:=(by rw[str_eq];simpa using j);obtain rfl:=E.out k x y hx hy j;clear HS HY E hx hy j HQ he;go_wp2_with fail;go_quiet (fail);go_wp2_with fail;go_ret;exact⟨rfl,J.out _⟩
   ·obtain rfl:k=n:=by omega
    have gk:=jb ((k:Int)<k);have Y:=jb (k<k);obtain rfl:=HY.out he HS.out;clear HS HY E M he;go_wp2_with fail;go_ret;exact⟨rfl,HQ.out⟩
 ·have z1:((n:Int) != (n2:Int))=true:=by simp;omega
  have Z:(n != n2)=true:=qj
  obtain rfl:=G.out he;clear HY E G he;go_enter func66,ntmps66;go_wp2_with fail;go_ret;exact⟨rfl,0,rfl⟩
end Idx
end Go.Proofs.YtfgdoknipbpfhaaGreatDoor
