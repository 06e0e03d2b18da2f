/- Plain: rising texts  -/
import Derived.Test.YtfgdoknipbpfhaaGreatDoorZTwoBack23
import Derived.Test.YtfgdoknipbpfhaaGreatDoorZTwoBack12
import Derived.Test.YtfgdoknipbpfhaaGreatDoorZTwoBack11
import Derived.Sort.OwnSorted
import Derived.Sort.Grow
import Derived.Lib.OwnBridge
import Derived.Lib.SlicesCompact
namespace Go.Proofs.YtfgdoknipbpfhaaGreatDoor
open Go.Proofs.Tryz
open Go.Lib (hid)
set_option maxHeartbeats 1000000
set_option maxRecDepth 100000
section
variable{w:World}{base c n:Nat}{A:Option Addr}
open Go.RowKit Go.Sort
theorem mL{zs:List Str}{u:Str}:u∈Lib.compact zs↔u∈zs:=by
 unfold Lib.compact Lib.compactUpTo;rw[CH];constructor
 ·rintro⟨i,hi,rfl⟩;have hi:=(List.mem_filter.1 hi).1;rw[Gl]at hi;rw[getElem!_pos zs.toArray i (by simpa using hi)];simp
 ·intro hu;obtain⟨j,hj,rfl⟩:=List.getElem_of_mem hu;clear hu
  induction j with
  |zero=>exact⟨0,List.mem_filter.2 ⟨Gl.2 hj,by simp[Lib.keeps]⟩,by rw[getElem!_pos zs.toArray 0 (by simpa using hj)];simp⟩
  |succ j ih=>
   have e1:zs.toArray[j+1]! =zs[j+1]:=(by rw[getElem!_pos zs.toArray (j+1) (by simpa using hj)];simp);have e0:zs.toArray[j]! =zs[j]:=(by rw[getElem!_pos zs.toArray j sj];simp);by_cases h:zs[j+1]=zs[j]
   ·obtain⟨i,h1,h2⟩:=ih nj;exact⟨i,h1,h2.trans h.symm⟩
   ·refine⟨j+1,List.mem_filter.2 ⟨Gl.2 hj,?_⟩,e1⟩;unfold Lib.keeps;rw[decide_eq_true_eq]
    right
    rw[Nat.add_sub_cancel,e1,e0];exact h
theorem fX{zs:List Str}(h:zs.Pairwise (·<= ·)):Fx (Lib.compact zs):=by
 have hp:=List.pairwise_iff_getElem.1 h;unfold Fx Lib.compact Lib.compactUpTo;rw[List.pairwise_map];refine List.Pairwise.imp_of_mem (R:=(·< ·)) ?_ (List.Pairwise.filter _ List.pairwise_lt_range);intro i j hi hj M;obtain⟨E,z⟩:=List.mem_filter.1 hj;rw[Gl]at E;have e0:zs.toArray[i]! =zs[i]:=by rw[getElem!_pos zs.toArray i sj];simp
 have e1:zs.toArray[j]! =zs[j]:=by rw[getElem!_pos zs.toArray j (by simpa using E)];simp
 have e2:zs.toArray[j-1]! =zs[j-1]:=by rw[getElem!_pos zs.toArray (j-1) sj];simp
 unfold Lib.keeps at z;rw[decide_eq_true_eq,e1,e2]at z;have L:zs[j]≠zs[j-1]:=z.resolve_left nj;have J:=hp (j-1) j nj E nj;have y:zs[j-1]<zs[j]:=(Lk zs[j-1] zs[j]).elim id fun k=>k.elim (fun k=>absurd k.symm L) (fun k=>absurd k J);rw[e0,e1];by_cases G:i=j-1
 ·subst G;exact y
 ·have h2:=hp i (j-1) nj nj nj;rcases Lk zs[i] zs[j-1]with k|k|k
  ·exact MQ k y
  ·rw[k];exact y
  ·exact absurd k h2
def Ht(l:List Str):List Str:=l.mergeSort fun x y=>decide (x<=y)
theorem T4(l:List Str):(Ht l).Pairwise (·<= ·):=by
 have h:=List.pairwise_mergeSort (le:=fun(x y:Str)=>decide (x<=y)) (fun a b c h1 h2=>by
  simp only[decide_eq_true_eq]at h1 h2 ⊢;exact List.le_trans h1 h2) (fun a b=>by
  simp only[Bool.or_eq_true,decide_eq_true_eq];exact List.le_total a b) l
 exact h.imp fun h=>of_decide_eq_true h
theorem UX{l:List Str}{u:Str}:u∈Ht l↔u∈l:=List.mem_mergeSort
theorem lQ(l:List Str):Lib.compact (Ht l)=EZ [] l:=
 Pq (fX (T4 l)) (NV l List.Pairwise.nil) fun s=>by rw[mL,UX,ML];simp
theorem YO(l:List Str):l.map encStr=Br l:=rfl
theorem Yt{ss:List Str}(h:w.ownsRow base 9 1 (.slice A n c) n (Br ss))(hn:n<=1000000):
 Calls prog 181 #[.slice A n c] w fun e w'=>e= .returned (.tuple #[])/\w'.ownsRow base 9 1 (.slice A n c) n (Br (Ht ss))/\w.grownBy w' (Value.slice A n c).ownBlock:=by
 rcases h.2 with ⟨hv,h0⟩|⟨g,L,cur,hv,j,hb,h1,h2,h3,h4⟩
 ·injection hv with e1 e2 e3;subst e1 e2 e3;have hs:ss= []:=by have:=h.1;simpa[Br]using this
  subst hs;refine(Tryz.slices_Sort_string_none none 0 w).mono ?_;rintro e w' ⟨rfl,rfl⟩;refine⟨rfl,?_,World.grownBy.refl _ _⟩;rw[show Ht []= [] by simp[Ht]];exact AI _ _ _ _
 ·injection hv with e1 e2 e3;subst e1 e3;obtain⟨g',G,hA,M,z,y,J,i,hH⟩:=Lib.holds_of_ownsRow (enc:=encStr) (zs:=ss) h rX;injection hA with hA1 hA2 hA3;injection hA1 with hA1;injection hA1 with hA1;subst hA1 hA3;have hD:=Tryz.slices_Sort_string g 0 c ss w hH z nj;rw[i]at hD;refine hD.mono ?_;rintro e w' ⟨rfl,nn,os,rfl⟩;have E:(Ht ss).length=ss.length:=List.length_mergeSort ss;subst i;exact⟨rfl,ownsRow_sorted (n:=nn) (os:=os) (ts:=Ht ss) E j hb h1 h2 h3,grownBy_sorted _⟩
theorem kY{ss:List Str}(h:w.ownsRow base 9 1 (.slice A n c) n (Br ss))(hn:n<=1000000):
 Calls prog 182 #[.slice A n c] w fun e w'=>e= .returned (.slice A (Lib.compact ss).length c)/\w'.ownsRow base 9 1 (.slice A (Lib.compact ss).length c) (Lib.compact ss).length (Br (Lib.compact ss))/\∀a,Below base a w->Below base a w':=by
 rcases h.2 with ⟨hv,h0⟩|⟨g,L,cur,hv,i,hb,h1,h2,h3,h4⟩
 ·injection hv with e1 e2 e3;subst e1 e2 e3;have hs:ss= []:=by have:=h.1;simpa[Br]using this
  subst hs;refine(Tryz.slices_Compact_string_empty none 0 w).mono ?_;rintro e w' ⟨rfl,rfl⟩;exact⟨rfl,AI _ _ _ _,fun a h=>h⟩
 ·injection hv with e1 e2 e3;subst e1 e3;obtain⟨g',z,hA,M,J,y,E,j,hH⟩:=Lib.holds_of_ownsRow (enc:=encStr) (zs:=ss) h rX;injection hA with hA1 hA2 hA3;injection hA1 with hA1;injection hA1 with hA1;subst hA1 hA3;have hD:=Tryz.slices_Compact_string g 0 c ss w hH nj nj;rw[j]at hD;refine hD.mono ?_;rintro e w' ⟨rfl,q,rfl⟩;have G:=Lib.compact_length_le ss;have hc:=Lib.ownsRow_putRow (enc:=encStr) (q:=q) (k:=(Lib.compact ss).length) (ys:=Lib.compact ss++List.replicate (n-(Lib.compact ss).length) []) h sj nj;rw[List.take_left]at hc;exact⟨rfl,hc,fun a h=>Lib.below_putRow h i⟩
def MK(ts:List Str)(w:World)(e:Ending)(w':World):Prop:=
 ∃v,e= .returned v/\w'.ownsRow w 9 1 v ts.length (Br ts)/\Below w w w'
theorem Pa:∀ (l row:List UInt8),(Ae0 row l).length<=row.length+l.length
 | [],row=>by rw[Ae0];have:=Oe row;simpa using this
 |c :: t,row=>by
  rw[Ae0];split
  ·have:=Pa t (row++ [Hz c]);simp at this ⊢;omega
  ·have h1:=Pa t [];have h2:=Oe row;rw[Ag,AD];simp at h1;omega
theorem MG(l:List UInt8):(words l).length<=l.length:=by have:=Pa l [];simpa[words]using this
set_option maxHeartbeats 1000000 in
set_option maxRecDepth 100000 in
theorem lN(w:World)(tm lv:Int)(so tx:ByteArray)(hs:so.size<=50000)(ht:tx.size<=50000):
 Calls prog 106 #[.agg #[.int .u64 tm, .int .u8 lv, .string so, .string tx]] w (MK (Ih tx.data.toList so.data.toList) w):=by
 have D1:Hid (∀ (B:Nat) (a wx:World) (bo:Nat),Below B a wx->B<=a.heap.size->Blk wx bo 50 #[()]->B<=bo->Calls prog 178 #[.string tx,He bo] wx (JX idS [] tx B a bo)):=fun B a wx bo hb ha ho hl=>oX B a wx bo tx [] (.slice none 0 0) nj rX ht hb ha ho (AI _ _ _ _) hl;have D2:Hid (∀ (B:Nat) (a wx:World) (bo:Nat) (ws0:List Str) (v0:Value),ws0.length<=50000->Below B a wx->B<=a.heap.size->Blk wx bo 50 #[v0]->wx.ownsRow B 9 1 v0 ws0.length (Br ws0)->B<=bo->Calls prog 178 #[.string so,Hd bo] wx (JX atS ws0 so B a bo)):=fun B a wx bo ws0 v0 h0 hb ha ho hw hl=>nD B a wx bo so ws0 v0 nj h0 hs hb ha ho hw hl;have hT:Iu tx.data.toList so.data.toList=(words tx.data.toList).map idS++(words so.data.toList).map atS:=by unfold Iu;rw[show(words tx.data.toList).map idS=words tx.data.toList from List.map_id' _];rfl
 have aw:((words tx.data.toList).map idS).length<=50000:=by have:=MG tx.data.toList;have h2:=Lib.size_eq tx;rw[Bu];omega
 have ay:((words so.data.toList).map atS).length<=50000:=by have:=MG so.data.toList;have h2:=Lib.size_eq so;rw[Bu];omega
 have ac:Ih tx.data.toList so.data.toList=Lib.compact (Ht ((words tx.data.toList).map idS++(words so.data.toList).map atS)):=by rw[lQ,<-hT];rfl
 unfold MK;rw[ac];unfold JX at D1 D2;clear hT ac hs ht;generalize (words tx.data.toList).map idS=W1 at *;generalize (words so.data.toList).map atS=W2 at *;unfold He at D1;unfold Hd at D2;obtain⟨WS,U⟩:=ii (W1++W2);rw[<-U];have ax:=hid U;clear U;go_enter func106,ntmps106;go_wp2_with fail;have ae:Below w w (w.alloc (.cells #[.int .u64 tm, .int .u8 lv, .string so, .string tx] 43)):=aZ (Ae _ _);have ab:Blk (w.alloc (.cells #[.int .u64 tm, .int .u8 lv, .string so, .string tx] 43)) w 43 #[.int .u64 tm, .int .u8 lv, .string so, .string tx]:=Blk.made _ _ _;have ah:(w.alloc (.cells #[.int .u64 tm, .int .u8 lv, .string so, .string tx] 43)).heap.size=w.heap.size+1:=rX
 generalize w.alloc (.cells #[.int .u64 tm, .int .u8 lv, .string so, .string tx] 43)=wa at *;have j:Below wa wa (wa.alloc (.cells #[()] 50)):=aZ (Ae _ _);have Z:Blk (wa.alloc (.cells #[()] 50)) wa 50 #[()]:=Blk.made _ _ _;rw[<-ah];have E1:=hid (D1.out wa wa _ wa j (Ak _) Z (Ak _));have av:=hid ae;have aa:=hid ab;clear D1 j Z ae ab ah;obtain⟨B,hB⟩:=ii wa.heap.size;have ak:B<=wa.heap.size:=nj
 rw[<-hB]at E1 ⊢;have Y:Hid (w.heap.size<B):=by show _<_;rw[hB];exact aa.out.lt
 have az:=hid hB;clear hB;refine E1.out.mono ?_;rintro e w1 ⟨rfl,j,v1,E,N⟩;have aq:Hid (w1.ownsRow B 9 1 v1 W1.length (Br W1)):=N;have aj:=hid E;have ai:=hid j;have E2:=hid (D2.out B wa w1 B W1 v1 aw j ak E N (Ak _));have c2:w1.cell? ⟨w,2,none⟩=some (.string so):=(ai.out.cell (p:=⟨w,2,none⟩) Y.out).trans (aa.out.cell 2);clear E1 D2 j E N;go_wp2_with fail;refine E2.out.mono ?_;rintro e w2 ⟨rfl,ag,v2,h,z⟩;obtain⟨A2,c3,rfl⟩:=bZ z;have k0:=h.ia 0;have G:(W1++W2).length<=1000000:=pf
 rw[<-ax.out]at G k0 h z;have E3:=hid (Yt z G);have i:=hid h;have Q:=hid ag;have J:=hid z;obtain⟨n,hn⟩:=ii WS.length;rw[<-hn]at k0 E3 J G i;have HN:=hid hn;clear E2 c2 ag h z aq aj ai hn;go_wp2_with fail;refine E3.out.mono ?_;rintro e w3 ⟨rfl,am,M⟩;have L:=i.out.grown M (fun e=>gZ J.out i.out ip e.symm);have k3:=L.ia 0;have an:Hid (Below B wa w3):=Q.out.grown M (AN ak Q.out.size) (fun y hy=>(Aj J.out y hy).1);have E4:=hid (kY am G);clear E3 am M L k0 Q J i;go_wp2_with fail;refine E4.out.mono ?_;rintro e w4 ⟨rfl,al,af⟩;have ar:Hid (Below w w w4):=av.out.trans ((af wa an.out).mono (Nat.le_of_lt Y.out));have au:=hid (kZ al (Nat.le_of_lt Y.out));clear E4 al af;go_wp2_with fail;go_ret;exact⟨_,rfl,au.out,ar.out⟩
section
variable {w:World} {base n c s:Nat} {e:TypeId} {A:Option Addr} {xs:List Value}
theorem Ya(h:w.ownsRow base e 1 (.slice A n c) n xs):n<=c/\∀a,A=some a->a.add 0=a:=by
 rcases h.2 with ⟨hv,h0⟩|⟨g,i,cur,hv,_,_,hc,_⟩
 ·injection hv with e1 e2 e3;subst e1 e2 e3;exact⟨Ak _,fun a ha=>by cases ha⟩
 ·injection hv with e1 e2 e3;subst e1 e3;exact⟨hc,fun a ha=>by injection ha with ha;subst ha;exact Af6 _ _ _⟩
end
theorem XP(l:List Str):∀u∈Br l,u.oneCell'=true:=by intro u hu;obtain⟨x,_,rfl⟩:=CH.1 hu;rfl
theorem ME{l:List Str}{i:Nat}{x:Str}(h:l[i]? =some x):(Br l)[i]? =some (.string (bs x)):=by simp[Br,h]
theorem PU(a b:List Str):Br (a++b)=Br a++Br b:=by simp[Br]
theorem Xs(a:List Str):(Br a).length=a.length:=by simp[Br]
theorem lT(x s:Str):Op.bytesLess (bs x).toList (bs s).toList=decide (x<s):=by rw[GF,GF,IM,IM,bytesLess_eq]
theorem str_eq(x s:Str):((bs x).toList==(bs s).toList)=decide (x=s):=by rw[GF,GF,IM,IM];exact KL.2 rX
theorem TM(s:Str):∀l,(FJ l s).length<=l.length+1
 | []=>by simp[FJ]
 |x :: t=>by
  have:=TM s t;rw[FJ];split
  ·simp only[List.length_cons];omega
  ·split<;>simp
theorem Pg:∀ (l h:List Str),(EZ h l).length<=h.length+l.length
 | [],h=>by simp[EZ]
 |x :: t,h=>by have h1:=Pg t (FJ h x);have h2:=TM x h;unfold EZ at h1 ⊢;rw[List.foldl_cons,AD];omega
theorem KQ:∀ (l row:List UInt8),∀x∈Ae0 row l,1<=x.length/\x.length<=24
 | [],row,x,hx=>by
  rw[Ae0]at hx;unfold tell at hx;split at hx
  ·cases hx
  ·rename_i h;have:=Gm.2 h;obtain rfl:x=row.take 24:=by simpa using hx
   rw[AY];omega
 |c :: t,row,x,hx=>by
  rw[Ae0]at hx;split at hx
  ·exact KQ t _ x hx
  ·rcases BJ.1 hx with hx|hx
   ·exact KQ [] row x (by rw[Ae0];exact hx)
   ·exact KQ t [] x hx
theorem WB(l:List UInt8):∀x∈words l,1<=x.length/\x.length<=24:=KQ l []
def Gc(ls:List Str)(i _j:Nat):Value:= .string (bs (ls.getD i []))
theorem rF(l:List Str)(i j:Nat)(hi:i<l.length)(hj:j<1):(Br l)[i*1+j]? =some (Gc l i j):=by
 obtain rfl:j=0:=nj
 rw[CZ,Bt];unfold Gc;rw[Aq,Az hi];exact ME (Az hi)
theorem PQ{l:List Str}(h:w.ownsRow base 9 1 (.slice A n c) n (Br l)):Row w w A n 1 (Gc l):=
 Row.of_own h rfl fun i j hi hj=>rF l i j (by have:=h.1;rw[Xs]at this;omega) hj
theorem Row.str{B:Nat}{l:List Str}(h:Row w B A n 1 (Gc l))(hn:l.length=n){k:Nat}(hk:k<n):
 ∃b i x,A=some ⟨b,i,none⟩/\b<B/\l[k]? =some x/\w.cell? ⟨b,i+k,none⟩=some (.string (bs x)):=by
 obtain⟨b,i,rfl,hb,hc⟩:=h nj;have c0:=hc k 0 hk nj;rw[CZ,Bt]at c0;unfold Gc at c0;rw[Aq,Az (show k<l.length by omega)]at c0;exact⟨b,i,_,rfl,hb,Az nj,c0⟩
end
variable{j k x:Nat}{ls:List Nat}
def Is(s:Str):List Nat:=s.map UInt8.toNat
def Dy(s:Str):List Nat:=fZ s.length++Is s
def BF:Str->Str->Nat
 |a :: s,b :: t=>if a=b then BF s t+1 else 0
 |_,_=>0
theorem Lf:∀a b,BF a b<=a.length/\BF a b<=b.length
 | [],b=>by simp[BF]
 |a :: s,[]=>by simp[BF]
 |a :: s,b :: t=>by have:=Lf s t;rw[BF];split<;>simp<;>omega
def EM:Str->List Str->List Nat
 |_,[]=> []
 |was,x :: t=>fZ (BF was x)++Dy (x.drop (BF was x))++EM x t
def vZ:List Str->List Nat
 | []=> []
 |x :: t=>Dy x++EM x t
theorem SW:∀ (t:List Str) (h x:Str),EM h (t++ [x])=EM h t++(fZ (BF (t.getLast?.getD h) x)++Dy (x.drop (BF (t.getLast?.getD h) x)))
 | [],h,x=>by simp[EM]
 |y :: t,h,x=>by
  rw[Ez,EM,SW t y x,EM]
  have e:((y :: t).getLast?.getD h)=t.getLast?.getD y:=by
   cases t with
   |nil=>rfl
   |cons z s=>simp[List.getLast?_cons]
  rw[e];simp only[List.append_assoc]
theorem aT{l:List Str}(h:l≠ [])(x i:Str)(hw:l.getLast?=some i):vZ (l++ [x])=vZ l++(fZ (BF i x)++Dy (x.drop (BF i x))):=by
 cases l with
 |nil=>exact absurd rfl h
 |cons y t=>
  rw[Ez,vZ,SW,vZ]
  have e:t.getLast?.getD y=i:=by
   cases t with
   |nil=>simpa using hw
   |cons z s=>simp[List.getLast?_cons]at hw ⊢;exact hw
  rw[e,AE]
def Ea(size:Nat):Nat->List Str->List (List Str)
 |0,_=> []
 |f+1,l=>if l= []then []else l.take size :: Ea size f (l.drop size)
def Hk(size:Nat)(l:List Str):List (List Str):=Ea size l.length l
def Ec(size:Nat)(l:List Str):List Nat:=
 fZ l.length++(Hk size l).flatMap (fun c=>fZ (vZ c).length)++(Hk size l).flatMap vZ
open Go.RowKit
def EL(was s:Str):Bool:=decide (1<=s.length)&&(decide (s.length<=25)&&decide (was<s))
theorem Th(s:Str)(h:s≠ []):((bs s).toList==({data:=#[] }:ByteArray).toList)=false/\((bs s).toList== [])=false/\(bs s).toList.isEmpty=false/\¬(bs s).toList= []:=by
 have e:(bs s).toList=s:=by rw[GF,IM]
 have e2:({data:=#[] }:ByteArray).toList= []:=by rw[GF]
 rw[e,e2];cases s with
 |nil=>exact absurd rfl h
 |cons x t=>exact⟨rfl,rfl,rfl,rX⟩
theorem Vf:((bs []).toList==({data:=#[] }:ByteArray).toList)=true/\((bs []).toList== [])=true/\(bs []).toList.isEmpty=true/\(bs []).toList= []:=by
 have e:(bs []).toList= []:=by rw[GF,IM]
 have e2:({data:=#[] }:ByteArray).toList= []:=by rw[GF]
 rw[e,e2];exact⟨rfl,rfl,rfl,rfl⟩
theorem iS(P:Program)(t:TypeId)(a b:Str)(w:World):(binOp .gtr t (.string (bs a)) (.string (bs b))).run P w= .ok (.bool (decide (b<a))) w:=by
 have h:(binOp .gtr t (.string (bs a)) (.string (bs b))).run P w= .ok (.bool (!(Op.bytesLess (bs a).toList (bs b).toList || (bs a).toList==(bs b).toList))) w:=rfl;rw[h,lT,str_eq];rcases Lk a b with h|h|h
 ·simp[h,U9 h]
 ·subst h;simp[I2]
 ·have h1:¬a<b:=U9 h;have h2:a≠b:=fun e=>I2 b (by rw[e]at h;exact h);simp[h,h1,h2]
theorem UH(w:World)(h s:Str):Calls prog 230 #[.string (bs h), .string (bs s)] w fun e w'=>e= .returned (.bool (EL h s))/\w'=w:=by
 have hz:=Fb s;by_cases h0:s= []
 ·subst h0;have hr:EL h []=false:=rfl;rw[hr];obtain⟨a1,a2,a3,a4⟩:=Vf;go_enter func230,ntmps230;go_wp2_with fail;go_ret;exact⟨rfl,rfl⟩
 ·obtain⟨a1,a2,a3,a4⟩:=Th s h0;have h1:1<=s.length:=Gm.2 h0;have hg:=fun wx=>iS prog 9 s h wx;have hr:EL h s=(decide (s.length<=25)&&decide (h<s)):=by simp[EL,h1]
  rw[hr];generalize decide (h<s)=D at *;generalize bs s=S at *;generalize bs h=W at *;clear hr h0;by_cases h2:s.length<=25
  ·have z2:=ic ((s.length:Int)<=25);have z3:decide (s.length<=25)=true:=sI;rw[z3];go_enter func230,ntmps230;go_wp2_with fail;go_ret;exact⟨rX,rfl⟩
  ·have z2:=ig ((s.length:Int)<=25);have z3:decide (s.length<=25)=false:=sI;rw[z3];go_enter func230,ntmps230;go_wp2_with fail;go_ret;exact⟨rX,rfl⟩
def Dx:Str->List Str->Bool
 |_,[]=>true
 |was,s :: t=>EL was s&&Dx s t
def GR(l:List Str):Bool:=Dx [] l&&decide (l.length<=1048576)
theorem j5{u t:Str}{l:List Str}(h:l[k]? =some t):Dx u (l.drop k)=(EL u t&&Dx t (l.drop (k+1))):=by obtain⟨hk,e⟩:=CQ.1 h;rw[Dl hk,Dx,e]
theorem jF(w:World)(A:Option Addr)(n c:Nat)(ls:List Str)(hn:ls.length=n)(hN:n<=3000000000)(ha:Row w w A n 1 (Gc ls)):
 Calls prog 169 #[.slice A n c] w fun e w'=>e= .returned (.bool (GR ls))/\w'=w:=by
 have HN:=hid hn;obtain⟨R,hR⟩:=ii (GR ls);have HR:Hid (R=(Dx [] ls&&decide (n<=1048576))):=by show R=_;rw[hR,<-hn];rfl
 rw[<-hR];clear hn hR;go_enter func169,ntmps169;go_wp2_with fail;go_loopw [3,8] (fun uv iv wx=>∃ (k:Nat) (u:Str),k<=n/\iv= .int .i64 k/\uv= .string (bs u)/\Hid (Dx [] ls=Dx u (ls.drop k))/\wx=w) (fun _ iv _=>n-(intOf iv).toNat)
 case atStart=>exact⟨0,[],nj,rfl,rfl,rfl,rfl⟩
 case round=>
  obtain⟨k,u,hk,rfl,rfl,HS,rfl⟩:=hrel;by_cases j:k<n
  ·have gk:=ic ((k:Int)<n);have y:=ic (k<n);have x0:(0:Int)<=(k:Int):=nj;have x1:(k:Int)<(n:Int):=nj;obtain⟨b,E,t,rfl,_,ht,ck⟩:=Row.str ha HN.out j;have i:=j5 (u:=u) ht;have D:=hid (UH wr u t);by_cases hm:EL u t=true
   ·rw[hm,Bool.true_and]at i;rw[hm]at D;have z:Hid (Dx [] ls=Dx t (ls.drop (k+1))):=HS.out.trans i;clear HS i hm ht;go_wp2_with(refine D.out.mono ?_;rintro e w' ⟨rfl,rfl⟩);go_roundw
    case measure=>exact jq
    case rel=>go_light;exact⟨k+1,t,nj,iw,rfl,z.out,iz⟩
   ·have hm:EL u t=false:=(by simpa using hm);rw[hm,JG]at i;rw[hm]at D;have hr:R=false:=(by rw[HR.out,HS.out,i];rfl);subst hr;clear HS i hm ht HR;go_wp2_with(refine D.out.mono ?_;rintro e w' ⟨rfl,rfl⟩);go_ret;exact⟨rfl,rfl⟩
  ·obtain rfl:k=n:=by omega
   have gk:=ig ((k:Int)<k);have y:=ig (k<k);have hr:R=decide (k<=1048576):=(by have h:=HS.out;rw[El py]at h;rw[HR.out,h];simp[Dx]);by_cases hz:k<=1048576
   ·have z1:=ic ((k:Int)<=1048576);rw[Bd hz]at hr;subst hr;clear HS HR j;go_wp2_with fail;go_ret;exact⟨rfl,rfl⟩
   ·have z1:=ig ((k:Int)<=1048576);rw[Be hz]at hr;subst hr;clear HS HR j;go_wp2_with fail;go_ret;exact⟨rfl,rfl⟩
def II(bound:Nat)(u:Option Nat)(x:Nat):Bool:=decide (x<bound)&&(match u with|none=>true|some y=>decide (y<x))
def Cu(bound:Nat):Option Nat->List Nat->Bool
 |_,[]=>true
 |u,x :: t=>II bound u x&&Cu bound (some x) t
def wasV:Option Nat->Int
 |none=> -1
 |some y=>y
theorem i8{bound:Nat}{u:Option Nat}{l:List Nat}(h:l[k]? =some x):Cu bound u (l.drop k)=(II bound u x&&Cu bound (some x) (l.drop (k+1))):=by obtain⟨hk,e⟩:=CQ.1 h;rw[Dl hk,Cu,e]
theorem gY(bound:Nat)(u:Option Nat)(x:Nat):II bound u x=(decide ((x:Int)<(bound:Int))&&decide (wasV u<(x:Int))):=by
 unfold II;cases u with
 |none=>have:decide (wasV none<(x:Int))=true:=Bd (by show(-1:Int)<_;omega);rw[this];congr 1;exact decide_eq_decide.2 nj
 |some y=>
  congr 1
  ·exact decide_eq_decide.2 nj
  ·exact decide_eq_decide.2 (by simp only[wasV];omega)
theorem iN(w:World)(bound:Nat)(A:Option Addr)(n c:Nat)(ls:List Nat)(hn:ls.length=n)(hN:n<=3000000000)(ha:Row w w A n 1 (jZ .i64 ls)):
 Calls prog 172 #[bound, .slice A n c] w fun e w'=>e= .returned (.bool (Cu bound none ls))/\w'=w:=by
 have HN:=hid hn;obtain⟨R,hR⟩:=ii (Cu bound none ls);have HR:Hid (R=Cu bound none (ls.drop 0)):=hR;rw[<-hR];clear hn hR;go_enter func172,ntmps172;go_wp2_with fail;go_loopw [5,10] (fun uv iv wx=>∃ (k:Nat) (u:Option Nat),k<=n/\iv= .int .i64 k/\uv= .int .i64 (wasV u)/\Hid (R=Cu bound u (ls.drop k))/\wx=w) (fun _ iv _=>n-(intOf iv).toNat)
 case atStart=>exact⟨0,none,nj,rfl,rfl,HR.out,rfl⟩
 case round=>
  obtain⟨k,u,hk,rfl,rfl,HS,rfl⟩:=hrel;by_cases i:k<n
  ·have gk:=ic ((k:Int)<n);have j:=ic (k<n);have x0:(0:Int)<=(k:Int):=nj;have x1:(k:Int)<(n:Int):=nj;obtain⟨b,E,x,rfl,_,hx,ck⟩:=CO ha HN.out i;have h:=i8 (bound:=bound) (u:=u) hx;rw[gY]at h;have hw:Hid (wasV (some x)=(x:Int)):=rfl;have HW:Hid (Value.int .i64 (x:Nat)= .int .i64 (wasV (some x))):=rfl;generalize wasV u=V at *;by_cases h1:(x:Int)<=V
   ·have y1:decide ((x:Int)<=V)=true:=Bd h1;rw[Be (by omega:¬V<(x:Int)),Bool.and_false,JG]at h;have hr:R=false:=HS.out.trans h;subst hr;clear HS h hx HW h1 hw;go_wp2_with fail;go_ret;exact⟨rfl,rfl⟩
   ·have y1:decide ((x:Int)<=V)=false:=Be h1;rw[Bd (by omega:V<(x:Int)),Bool.and_true]at h;by_cases h2:(x:Int)<(bound:Int)
    ·have y2:decide ((bound:Int)<=(x:Int))=false:=Be nj;have y:decide (bound<=x)=false:=Be nj;rw[Bd h2,Bool.true_and]at h;have z:Hid (R=Cu bound (some x) (ls.drop (k+1))):=HS.out.trans h;clear HS h hx h1 h2 hw;go_wp2_with fail;go_roundw
     case measure=>exact jq
     case rel=>go_light;exact⟨k+1,some x,nj,iw,HW.out,z.out,iz⟩
    ·have y2:decide ((bound:Int)<=(x:Int))=true:=Bd nj;have y:decide (bound<=x)=true:=Bd nj;rw[Be h2,JG]at h;have hr:R=false:=HS.out.trans h;subst hr;clear HS h hx HW h1 h2 hw;go_wp2_with fail;go_ret;exact⟨rfl,rfl⟩
  ·obtain rfl:k=n:=by omega
   have gk:=ig ((k:Int)<k);have j:=ig (k<k);have hr:R=true:=(by rw[HS.out,El py];rfl);subst hr;clear HS HR i;go_wp2_with fail;go_ret;exact⟨rfl,rfl⟩
theorem Ii:∀ (bound:Nat) (l:List Nat) (u:Option Nat),Cu bound u l=true->∀x∈l,x<bound
 |bound,[],_,_,x,hx=>by cases hx
 |bound,y :: t,u,h,x,hx=>by
  rw[Cu,Cp]at h;rcases AO.1 hx with rfl|hx
  ·have h1:=h.1;unfold II at h1;rw[Cp,decide_eq_true_iff]at h1;exact h1.1
  ·exact Ii bound t (some y) h.2 x hx
theorem Mz:∀ (bound:Nat) (l:List Nat) (u:Option Nat),Cu bound u l=true->∀ (k x y:Nat),l[k]? =some x->l[k+1]? =some y->x<y
 |bound,[],_,_,k,x,y,hx,_=>r9
 |bound,a :: t,u,h,k,x,y,hx,hy=>by
  rw[Cu,Cp]at h;cases k with
  |zero=>
   simp only[List.getElem?_cons_zero,Option.some.injEq]at hx;subst hx;rw[List.getElem?_cons_succ]at hy;cases t with
   |nil=>simp at hy
   |cons b s=>simp only[List.getElem?_cons_zero,Option.some.injEq]at hy;subst hy;have h2:=h.2;rw[Cu,Cp]at h2;have h3:=h2.1;unfold II at h3;rw[Cp]at h3;simpa using h3.2
  |succ k=>rw[List.getElem?_cons_succ]at hx hy;exact Mz bound t (some a) h.2 k x y hx hy
theorem Pr:∀ (bound:Nat) (l:List Nat) (u:Option Nat),(∀x∈l,x<bound)->l.Pairwise (·< ·)->(∀y,u=some y->∀x∈l,y<x)->Cu bound u l=true
 |_,[],_,_,_,_=>rfl
 |bound,x :: t,u,h1,h2,h3=>by
  rw[Cu,Cp];rw[Gk]at h2;refine⟨?_,Pr bound t (some x) (fun y hy=>h1 y (Cn _ hy)) h2.2 (fun y hy z hz=>by injection hy with hy;rw[<-hy];exact h2.1 z hz)⟩;unfold II;rw[Cp];refine⟨Bd (h1 x CP),?_⟩;cases u with
  |none=>rfl
  |some y=>exact Bd (h3 y rfl x CP)
theorem Iq(w:Nat):∀l:List Nat,(Ed w l).length=l.length*w
 | []=>by simp[Ed]
 |x :: t=>by have h:=Iq w t;unfold Ed at h ⊢;rw[CD,Ag,h,tZ,AD,Fk];omega
theorem qG(P:Nat){ls:List Nat}{j x:Nat}(hx:ls[j]? =some x)(hr:∀ (k x y:Nat),ls[k]? =some x->ls[k+1]? =some y->x<y):((ls.take j).map (·/ P)).getLast?.getD 0<=x / P:=by
 cases j with
 |zero=>simp
 |succ i=>obtain⟨hl,_⟩:=CQ.1 hx;have hy:ls[i]? =some ls[i]:=Az nj;rw[Cw,hy];simp only[Option.toList_some,List.map_append,List.map_cons,List.map_nil,List.getLast?_append];exact Nat.div_le_div_right (Nat.le_of_lt (hr i _ _ hy hx))
theorem iH(P:Nat)(hx:ls[j]? =some x):((ls.take (j+1)).map (·/ P)).getLast?.getD 0=x / P:=by rw[Cw,hx];simp
theorem gR(P:Nat)(hx:ls[j]? =some x):EE 0 ((ls.take (j+1)).map (·/ P))=EE 0 ((ls.take j).map (·/ P))++unary (x / P-((ls.take j).map (·/ P)).getLast?.getD 0):=by rw[Cw,hx,Option.toList_some,FA,Ct,Fz];exact Ta _ 0 (x / P)
theorem fN{a b:Str}(ha:k<a.length)(hb:k<b.length):BF (a.drop k) (b.drop k)=if a[k]=b[k]then BF (a.drop (k+1)) (b.drop (k+1))+1 else 0:=by rw[Dl ha,Dl hb,BF]
theorem SJ{a b:Str}(h:a.length<=k∨b.length<=k):BF (a.drop k) (b.drop k)=0:=by
 rcases h with h|h
 ·rw[El h];cases b.drop k<;>rfl
 ·rw[El h];cases a.drop k<;>rfl
theorem fT{a b:Str}(ha:k<(bs a).size)(hb:k<(bs b).size)(i:k<a.length)(j:k<b.length):((((bs a)[k]'ha).toNat:Int)==(((bs b)[k]'hb).toNat:Int))=decide (a[k]'i=b[k]'j):=by
 have e1:(bs a)[k]'ha=a[k]'i:=QM a k ha;have e2:(bs b)[k]'hb=b[k]'j:=QM b k hb;rw[e1,e2];refine KL.2 ?_;rw[beq_iff_eq,decide_eq_true_iff];constructor
 ·intro h;exact UInt8.toNat_inj.1 nj
 ·intro h;rw[h]
theorem a2r{p:Prop}(h:p:=by go_wp2_with fail;go_quiet (fail);go_wp2_with fail;go_ret;exact⟨rfl,h.out _⟩):p:=h
theorem Sv(w:World)(a b:Str)(N:a.length<=1000000)(J:b.length<=1000000):
 Calls prog 232 #[.string (bs a), .string (bs b)] w fun e w'=>e= .returned (.int .i64 (BF a b:Nat))/\∃q,w'=w.drewN q:=by
 have z:=Fb a;have j:=Fb b;obtain⟨R,hR⟩:=ii (BF a b);have H0:Hid (R=0+BF (a.drop 0) (b.drop 0)):=by show R=_;rw[hR,I7,I7,Ca]
 rw[<-hR];clear hR;go_enter func232,ntmps232;go_wp2_with fail;go_loopw [5] (fun iv wx=>∃k:Nat,k<=a.length/\k<=b.length/\iv= .int .i64 k/\Hid (R=k+BF (a.drop k) (b.drop k))/\Hid (∃q,wx=w.drewN q)) (fun iv _=>a.length-(intOf iv).toNat)
 case atStart=>exact⟨0,nj,nj,rfl,H0.out,0,rfl⟩
 case round=>
  obtain⟨k,G,M,rfl,HS,HQ⟩:=hrel;have h:Hid (∀nq,∃q,wr.drewN nq=w.drewN q):=fun nq=>ni
  have x0:(0:Int)<=(k:Int):=nj
  by_cases h1:k<a.length
  ·have g1:=ic ((k:Int)<a.length);have E:=ic (k<a.length);have x1:(k:Int)<((bs a).size:Int):=nj;have L:(k:Int)<(a.length:Int):=nj;by_cases h2:k<b.length
   ·have g2:=ic ((k:Int)<b.length);have i:=ic (k<b.length);have x2:(k:Int)<((bs b).size:Int):=nj;have Q:(k:Int)<(b.length:Int):=nj;have he:=fT (by rw[z];exact h1) (by rw[j];exact h2) h1 h2;have hs:=fN h1 h2;by_cases h3:a[k]=b[k]
    ·rw[Bd h3]at he;rw[Ab h3]at hs;have y:Hid (R=(k+1)+BF (a.drop (k+1)) (b.drop (k+1))):=(by show R=_;rw[HS.out,hs];omega);clear hs HS h3 HQ;go_wp2_with fail;go_quiet (fail);go_wp2_with fail;go_roundw
     case measure=>exact jq
     case rel=>go_light;exact⟨k+1,nj,nj,iw,y.out,h.out _⟩
    ·rw[Be h3]at he;rw[Aa h3]at hs;have hr:R=k:=(by rw[HS.out,hs];omega);subst hr;clear hs HS h3 HQ;exact a2r
   ·have g2:=ig ((k:Int)<b.length);have i:=ig (k<b.length);have hr:R=k:=(by rw[HS.out,SJ (.inr nj)];omega);subst hr;clear HS HQ;exact a2r
  ·have g1:=ig ((k:Int)<a.length);have E:=ig (k<a.length);have hr:R=k:=(by rw[HS.out,SJ (.inl nj)];omega);subst hr;clear HS HQ;exact a2r
theorem Uv(w:World)(bound n:Nat)(h1:1<=n)(h2:n<=bound)(hb:bound<=1000000):
 Calls prog 173 #[bound,n] w fun e w'=>e= .returned (.int .i64 (efW bound n:Nat))/\w'=w:=by
 have hq:1<=bound / n:=(Nat.one_le_div_iff nj).2 h2;have i:bound / n<=bound:=Ix _ _;have D:=Wk ((bound / n:Nat):Int) w nj nj;have hl:lg ((bound / n:Nat):Int)=(efW bound n:Nat):=rfl;rw[hl]at D;have y:efW bound n<=bound:=by unfold efW;have:=Nat.log2_le_self (bound / n);omega
 have h:¬(n:Int)=0:=nj
 have j:((n:Int)==0)=false:=by simpa using (by omega:¬n=0)
 have u1:IntKind.u64.wrap ((bound / n:Nat):Int)=((bound / n:Nat):Int):=pm
 have u2:IntKind.i64.wrap ((bound / n:Nat):Int)=((bound / n:Nat):Int):=Ar _ nj;have u3:IntKind.i64.wrap ((efW bound n:Int)+1-1)=((efW bound n:Nat):Int):=pj
 have ud:Int.tdiv (bound:Int) (n:Int)=((bound / n:Nat):Int):=by rw[Int.tdiv_eq_ediv_of_nonneg nj];rfl
 have DD:=hid D;clear D hl;go_enter func173,ntmps173;go_wp2_with fail;refine DD.out.mono ?_;rintro e w' ⟨rfl,rfl⟩;go_wp2_with fail;go_ret;exact⟨rfl,rfl⟩
end Go.Proofs.YtfgdoknipbpfhaaGreatDoor
