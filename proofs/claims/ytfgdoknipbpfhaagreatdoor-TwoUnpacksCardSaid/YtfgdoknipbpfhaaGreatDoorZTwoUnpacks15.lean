/- Rows of texts: what  -/
import Derived.Test.YtfgdoknipbpfhaaGreatDoorZTwoUnpacks14
namespace Go.Proofs.YtfgdoknipbpfhaaGreatDoor
open Go.Proofs.Tryz
open Go.Lib (hid)
set_option maxHeartbeats 2000000
set_option maxRecDepth 100000
variable{k n:Nat}{w:World}{A:Option Addr}
namespace Idx
open Go.RowKit Mem Own Canon Sift
open Crc (CX)
section
variable {w:World} {base n c s:Nat} {e:TypeId} {A:Option Addr} {xs:List Value}
theorem Rg(h:w.ownsRow base e 1 (.slice A n c) n xs)(m:Nat)(hm:m<=n):Src w A m c 1 (xs.take m):=by
 have hl:=h.1;refine⟨by rw[AN,hl];omega,?_⟩;rcases h.2 with ⟨hv,h0⟩|⟨g,i,cur,hv,_⟩
 ·injection hv with e1 e2 e3;subst e1 e2 e3;exact .inl ⟨rfl,kR,rfl⟩
 ·injection hv with e1 e2 e3;subst e1 e3;refine .inr ⟨_,rfl,fun j u hu=> ?_⟩;have hj:j<m:=by have:=(Ch.1 hu).1;rw[AN]at this;omega
  rw[Mem.add_none,BF,h.cellAt j kR]
  rwa [Iv,Ab hj]at hu
theorem Q3(h:w.ownsRow base e 1 (.slice A n c) n xs)(k:Nat)(hk:k<=n):Src w (xZ A k c 1) (n-k) (c-k) 1 (xs.drop k):=by
 have hl:=h.1;refine⟨by rw[AK,hl];omega,?_⟩;rcases h.2 with ⟨hv,h0⟩|⟨g,y,cur,hv,_,_,hc,_⟩
 ·injection hv with e1 e2 e3;subst e1 e2 e3;obtain rfl:k=0:=by omega
  exact .inl ⟨rfl,rfl,rfl⟩
 ·injection hv with e1 e2 e3;subst e1 e3;have i:∀j u,(xs.drop k)[j]? =some u->w.cell? ⟨g,k+j,none⟩=some u:=fun j u hu=>by rw[I7]at hu;have hj:=(Ch.1 hu).1;rw[h.cellAt (k+j) kR];exact hu
  unfold xZ;split
  ·refine .inr ⟨_,rfl,fun j u hu=> ?_⟩;have hj:=(Ch.1 hu).1;rw[AK]at hj;omega
  ·exact .inr ⟨_,rfl,fun j u hu=>by show w.cell? (Addr.add (Addr.add ⟨g,0,none⟩ (k*1)) j)=_;rw[Mem.add_none,Mem.add_none,BF,EF];exact i j u hu⟩
theorem QS(h:w.ownsRow base e 1 (.slice A n c) n xs):n<=c/\∀a,A=some a->a.add 0=a:=by
 rcases h.2 with ⟨hv,h0⟩|⟨g,i,cur,hv,_,_,hc,_⟩
 ·injection hv with e1 e2 e3;subst e1 e2 e3;exact⟨Ai _,fun a ha=>by cases ha⟩
 ·injection hv with e1 e2 e3;subst e1 e3;exact⟨hc,fun a ha=>by injection ha with ha;subst ha;exact Mem.add_none _ _ _⟩
end
theorem Kl(l:List Str):∀u∈AD l,u.oneCell'=true:=by intro u hu;obtain⟨x,_,rfl⟩:=ET.1 hu;rfl
theorem GM{l:List Str}{i:Nat}{x:Str}(h:l[i]? =some x):(AD l)[i]? =some (.string (bs x)):=by simp[AD,h]
theorem JD(a b:List Str):AD (a++b)=AD a++AD b:=by simp[AD]
theorem Pu(a:List Str)(k:Nat):(AD a).take k=AD (a.take k):=by simp[AD,List.map_take]
theorem Pe(a:List Str)(k:Nat):(AD a).drop k=AD (a.drop k):=by simp[AD,List.map_drop]
theorem Ob(a:List Str):(AD a).length=a.length:=by simp[AD]
theorem LZ(x s:Str):Op.bytesLess (bs x).toList (bs s).toList=decide (x<s):=by rw[Fw,Fw,Io,Io,bytesLess_eq]
theorem str_eq(x s:Str):((bs x).toList==(bs s).toList)=decide (x=s):=by rw[Fw,Fw,Io,Io];exact I9.2 mY
def JQ(ts:List Str)(base:Nat)(w:World)(e:Ending)(w':World):Prop:=
 ∃v,e= .returned v/\w'.ownsRow base 9 1 v ts.length (AD ts)/\aO w w'
theorem NK(w:World)(base:Nat)(A:Option Addr)(n c:Nat)(ls:List Str)(s:Str)(hn:ls.length=n)(hN:n<=3000000000)(ar:base<=w.heap.size)(an:w.ownsRow base 9 1 (.slice A n c) n (AD ls)):
 Calls prog 69 #[.slice A n c, .string (bs s)] w (JQ (Dm ls s) base w):=by
 obtain⟨j0,U,Z,N,Y⟩:=info_parts Kn;have HN:=hid hn;have HO:=hid an;obtain⟨aV,M⟩:=QS an;have HP:Hid (∀k,k<=ls.length->(∀i,(h:i<k)->(h':i<ls.length)->ls[i]<s)->(∀x,ls[k]? =some x->¬x<s)->Dm ls s=if ls[k]? =some s then ls else ls.take k++s :: ls.drop k):=Qn s ls;unfold JQ;generalize Dm ls s=R at *;clear hn an;go_enter func69,ntmps69;go_wp2_with fail;go_loopw [5] (fun iv wx=>∃k:Nat,k<=n/\iv= .int .i64 k/\Hid (∀i,(h:i<k)->(h':i<ls.length)->ls[i]<s)/\wx=w) (fun iv _=>n-(intOf iv).toNat)
 case atStart=>exact⟨0,kR,rfl,fun i h=>absurd h kR,rfl⟩
 case round=>
  obtain⟨k,hk,rfl,HS,rfl⟩:=hrel;by_cases aW:k<n
  ·have gk:=iQ ((k:Int)<n);have aQ:=iQ (k<n);have x0:(0:Int)<=(k:Int):=kR;have x1:(k:Int)<(n:Int):=kR;obtain⟨g,cg,aU,aX,_⟩:=HO.out.form kR;injection aU with hA1 hA2 hA3;subst hA1 hA3;obtain⟨x,hx⟩:∃x,ls[k]? =some x:=⟨_,AE kg⟩;have ck:wr.cell? ⟨g,k,none⟩=some (.string (bs x)):=(by rw[HO.out.cellAt k kR];exact GM hx);have HX:=hid hx;clear hx;by_cases Q:x<s
   ·have gx:Op.bytesLess (bs x).toList (bs s).toList=true:=by rw[LZ];simpa using Q
    have L:Hid (∀i,(h:i<k+1)->(h':i<ls.length)->ls[i]<s):=fun i h h'=>by
     by_cases e:i<k
     ·exact HS.out i e h'
     ·obtain rfl:i=k:=by omega
      have:=HX.out;rw[AE h']at this;injection this with this;rw[this];exact Q
    have s2:IntKind.i64.wrap ((k:Int)+1)=((k+1:Nat):Int):=lD;clear HS Q;go_wp2_with fail;go_roundw
    case measure=>exact jw
    case rel=>go_light;exact⟨k+1,kR,i5,L.out,i7⟩
   ·have gx:Op.bytesLess (bs x).toList (bs s).toList=false:=(by rw[LZ];simpa using Q);have J:Hid (∀y,ls[k]? =some y->¬y<s):=fun y hy=>by have h:=HX.out;rw[hy]at h;injection h with h;rw[h];exact Q
    clear Q;by_cases he:x=s
    ·have ge:((bs x).toList==(bs s).toList)=true:=my;have HR:Hid (R=ls):=(by have h:=HP.out k kg HS.out J.out;rw[Ab (by rw[HX.out,he])]at h;exact h);clear HP HS J HX he;go_wp2_with fail;go_ret;exact⟨_,rfl,by rw[HR.out,HN.out];exact HO.out,Ag _ _⟩
    ·have ge:((bs x).toList==(bs s).toList)=false:=my;have al:Hid (¬ls[k]? =some s):=fun h=>by have h2:=HX.out;rw[h]at h2;injection h2 with h2;exact he h2.symm
     clear HX he;have HR:Hid (R=ls.take k++s :: ls.drop k):=jF;have aT:=fun wx=>CX (P:=prog) (t:=50) (s:=1) underlying50 (fun _=>by kernel_rfl) (some ⟨g,0,none⟩) n c .i64 (k:Int) k rfl kR M wx;have ax:=fun wx=>EM (P:=prog) (t:=50) (s:=1) underlying50 (fun _=>by kernel_rfl) (some ⟨g,0,none⟩) n c .i64 (k:Int) k rfl hk wx;have az:Hid (Src wr (some ⟨g,0,none⟩) k c 1 (AD (ls.take k))):=(by rw[<-Pu];exact Rg HO.out k hk);have L:Hid (∀wx,aO wr wx->Src wx (xZ (some ⟨g,0,none⟩) k c 1) (n-k) (c-k) 1 (AD (ls.drop k))):=fun wx hb=>k8
     generalize xZ (some ⟨g,0,none⟩) k c 1=A5 at *;generalize c-k=c5 at *;obtain⟨m5,ac⟩:=iS (n-k);rw[<-ac]at L ax;have aj:k+m5=n:=kR;have aP:=hid aj;have aS:k+1+m5<=3000000001:=kR;have aR:k<=3000000000:=kR;clear HP HS J al M HO ac aj;go_wp2_with(first|(at_builtin;refine gZ rfl (.tmp 34) (.tmp 37) 50 rfl wr 9 j0 _ 1 16 underlying50 U Z N Y rfl iX (.slice none 0 0) 0 [] kU (Aq _ _ _ _) _ _ _ _ kU az.out (Kl _) nI kR (Ai _) ?_;intro v4 w4 j ag ak;obtain⟨A4,k4,rfl⟩:=aZ j;have am:Hid (aO wr w4):=(Ag _ _).grown ag (Ai _) (fun y hy=>by cases hy);have ay:=am.out.size;rw[BF,GF]at j;have ae:=hid j;clear j ag ak)|(at_builtin;refine gZ rfl (.tmp 39) (.tmp 41) 50 rfl wr 9 j0 _ 1 16 underlying50 U Z N Y rfl iX _ _ _ kU (ae.out.alloc _) _ 1 1 [.string (bs s)] kU (Src.of_blk (Blk.made _ _ _) 1 1 1 rfl) kw nI kR ni ?_;intro v6 w6 z aq ah;obtain⟨A6,k6,rfl⟩:=aZ z;have G:Hid (aO wr w6):=(lZ ay am.out).grown aq ni (fun y hy=>(Ae ae.out y hy).1);have af:=G.out.size;have aa:=hid z;have au:=hid (L.out _ G.out);clear z aq ah)|(at_builtin;refine gZ rfl (.tmp 43) (.tmp 46) 50 rfl wr 9 j0 _ 1 16 underlying50 U Z N Y rfl iX _ _ _ kU aa.out _ _ _ _ kU au.out (Kl _) nI kR af ?_;intro v8 w8 E ai ab;have aw:Hid (aO wr w8):=G.out.grown ai af (fun y hy=>(Ae aa.out y hy).1);have av:=hid E;clear E ai ab));go_ret;refine⟨_,rfl,?_,aw.out⟩;have h:=iZ av.out ar;rw[HR.out];have e1:(AD (ls.take k)++ [.string (bs s)]++AD (ls.drop k))=AD (ls.take k++s :: ls.drop k):=by simp[AD]
     have e2:(ls.take k++s :: ls.drop k).length=k+1+m5:=jA;rw[e2,<-e1];exact h
  ·have gk:=iR ((k:Int)<n);have aQ:=iR (k<n);have J:Hid (∀y,ls[k]? =some y->¬y<s):=fun y hy=>by rw[GV lR]at hy;cases hy
   have al:Hid (¬ls[k]? =some s):=(by show ¬_;rw[GV lR];simp);have HR:Hid (R=ls.take k++s :: ls.drop k):=jF;have aT:=fun wx=>CX (P:=prog) (t:=50) (s:=1) underlying50 (fun _=>by kernel_rfl) A n c .i64 (k:Int) k rfl kR M wx;have ax:=fun wx=>EM (P:=prog) (t:=50) (s:=1) underlying50 (fun _=>by kernel_rfl) A n c .i64 (k:Int) k rfl hk wx;have az:Hid (Src wr A k c 1 (AD (ls.take k))):=(by rw[<-Pu];exact Rg HO.out k hk);have L:Hid (∀wx,aO wr wx->Src wx (xZ A k c 1) (n-k) (c-k) 1 (AD (ls.drop k))):=fun wx hb=>k8
   generalize xZ A k c 1=A5 at *;generalize c-k=c5 at *;obtain⟨m5,ac⟩:=iS (n-k);rw[<-ac]at L ax;have aj:k+m5=n:=kR;have aP:=hid aj;have aS:k+1+m5<=3000000001:=kR;have aR:k<=3000000000:=kR;clear HP HS J al M HO ac aj;go_wp2_with(first|(at_builtin;refine gZ rfl (.tmp 34) (.tmp 37) 50 rfl wr 9 j0 _ 1 16 underlying50 U Z N Y rfl iX (.slice none 0 0) 0 [] kU (Aq _ _ _ _) _ _ _ _ kU az.out (Kl _) nI kR (Ai _) ?_;intro v4 w4 j ag ak;obtain⟨A4,k4,rfl⟩:=aZ j;have am:Hid (aO wr w4):=(Ag _ _).grown ag (Ai _) (fun y hy=>by cases hy);have ay:=am.out.size;rw[BF,GF]at j;have ae:=hid j;clear j ag ak)|(at_builtin;refine gZ rfl (.tmp 39) (.tmp 41) 50 rfl wr 9 j0 _ 1 16 underlying50 U Z N Y rfl iX _ _ _ kU (ae.out.alloc _) _ 1 1 [.string (bs s)] kU (Src.of_blk (Blk.made _ _ _) 1 1 1 rfl) kw nI kR ni ?_;intro v6 w6 z aq ah;obtain⟨A6,k6,rfl⟩:=aZ z;have G:Hid (aO wr w6):=(lZ ay am.out).grown aq ni (fun y hy=>(Ae ae.out y hy).1);have af:=G.out.size;have aa:=hid z;have au:=hid (L.out _ G.out);clear z aq ah)|(at_builtin;refine gZ rfl (.tmp 43) (.tmp 46) 50 rfl wr 9 j0 _ 1 16 underlying50 U Z N Y rfl iX _ _ _ kU aa.out _ _ _ _ kU au.out (Kl _) nI kR af ?_;intro v8 w8 E ai ab;have aw:Hid (aO wr w8):=G.out.grown ai af (fun y hy=>(Ae aa.out y hy).1);have av:=hid E;clear E ai ab));go_ret;refine⟨_,rfl,?_,aw.out⟩;have h:=iZ av.out ar;rw[HR.out];have e1:(AD (ls.take k)++ [.string (bs s)]++AD (ls.drop k))=AD (ls.take k++s :: ls.drop k):=by simp[AD]
   have e2:(ls.take k++s :: ls.drop k).length=k+1+m5:=jA;rw[e2,<-e1];exact h
end Idx
namespace Idx
open Go.RowKit Mem Own Canon Sift
theorem N5{W:List Str}{x:Str}(i:List Str)(h:W[k]? =some x):Bk i (W.take (k+1))=Dm (Bk i (W.take k)) x:=by rw[EG,h];exact U9 _ _ _
theorem Kj(s:Str):∀l,(Dm l s).length<=l.length+1
 | []=>by simp[Dm]
 |x :: t=>by
  have:=Kj s t;rw[Dm];split
  ·simp only[List.length_cons];omega
  ·split<;>simp
theorem Lr:∀ (l h:List Str),(Bk h l).length<=h.length+l.length
 | [],h=>by simp[Bk]
 |x :: t,h=>by have h1:=Lr t (Dm h x);have h2:=Kj x h;unfold Bk at h1 ⊢;rw[List.foldl_cons,Bu];omega
theorem KY:∀ (l row:List UInt8),∀x∈split row l,1<=x.length/\x.length<=24
 | [],row,x,hx=>by
  rw[split]at hx;unfold tell at hx;split at hx
  ·cases hx
  ·rename_i h;have:=Iu.2 h;obtain rfl:x=row.take 24:=by simpa using hx
   rw[AN];omega
 |c :: t,row,x,hx=>by
  rw[split]at hx;split at hx
  ·exact KY t _ x hx
  ·rcases BN.1 hx with hx|hx
   ·exact KY [] row x (by rw[split];exact hx)
   ·exact KY t [] x hx
theorem NV(l:List UInt8):∀x∈words l,1<=x.length/\x.length<=24:=KY l []
theorem UB(w:World)(tm lv:Int)(so tx:ByteArray)(hs:so.size<=50000)(ht:tx.size<=50000):
 Calls prog 68 #[.agg #[.int .u64 tm, .int .u8 lv, .string so, .string tx]] w (Ie (FX tx.data.toList so.data.toList) w):=by
 have D1:=hid (fun wx=>S7 wx tx kR);have D2:=hid (fun wx=>S7 wx so kR);have aS:(words tx.data.toList).length<=50000:=by have:=JK tx.data.toList;have h2:=Lib.size_eq tx;omega
 have aW:(words so.data.toList).length<=50000:=by have:=JK so.data.toList;have h2:=Lib.size_eq so;omega
 have hT:FX tx.data.toList so.data.toList=Bk (Bk [] (words tx.data.toList)) ((words so.data.toList).map (Dx :: ·)):=by unfold FX He;rw[YB]
 have ax:Hid (∀x∈words so.data.toList,x.length<=24):=fun x hx=>(NV _ x hx).2;unfold Mu at D1 D2;unfold Ie;generalize words tx.data.toList=W1 at *;generalize words so.data.toList=W2 at *;obtain⟨TS,ai⟩:=iS (FX tx.data.toList so.data.toList);rw[<-ai]at hT ⊢;have HT:=hid hT;have aU:so.size<=50000:=hs;clear hT ai hs ht;go_enter func68,ntmps68;go_wp2_with fail;have ar:aO w (w.alloc (.cells #[.int .u64 tm, .int .u8 lv, .string so, .string tx] 43)):=bZ (Ag _ _);have al:Blk (w.alloc (.cells #[.int .u64 tm, .int .u8 lv, .string so, .string tx] 43)) w 43 #[.int .u64 tm, .int .u8 lv, .string so, .string tx]:=Blk.made _ _ _;generalize w.alloc (.cells #[.int .u64 tm, .int .u8 lv, .string so, .string tx] 43)=wa at *;refine(D1.out _).mono ?_;rintro e w1 ⟨v1,rfl,af,Z⟩;obtain⟨A1,c1,rfl⟩:=aZ af;have G:=hid af;have U:Hid (aO w w1):=eZ Z ar;have ag:=hid (al.step Z);clear af Z ar al D1;go_wp2_with fail;go_loopw [3,5] (fun u iv wr=>∃ (k n:Nat),k<=W1.length/\n<=0+k/\iv= .int .i64 k/\Hid ((Bk [] (W1.take k)).length=n)/\Hid (wr.ownsRow w1 9 1 u n (AD (Bk [] (W1.take k))))/\Hid (aO w1 wr)) (fun _ iv _=>W1.length-(intOf iv).toNat)
 case atStart=>exact⟨0,0,kR,kR,rfl,rfl,Aq _ _ _ _,Ag _ _⟩
 case round=>
  obtain⟨k,n,hk,hn,rfl,HL,HO,HB⟩:=hrel;have hz:=HB.out.size;by_cases M:k<W1.length
  ·obtain⟨x,hx⟩:∃x,W1[k]? =some x:=⟨_,AE M⟩;have z:=hid (N5 (W:=W1) (k:=k) [] (show W1[k]? =some x by exact hx));have gk:=iQ ((k:Int)<W1.length);have N:=iQ (k<W1.length);have x0:(0:Int)<=(k:Int):=kR;have x1:(k:Int)<(W1.length:Int):=kR;obtain⟨g,cg,ab,aP,_⟩:=G.out.form kR;injection ab with hA1 hA2 hA3;subst hA1 hA3;have ck:wr.cell? ⟨g,k,none⟩=some (.string (bs x)):=(by have h:=G.out.cellAt k kR;rw[<-GM hx,<-h];exact HB.out.cell (p:=⟨g,k,none⟩) (Ae G.out g rfl).2);obtain⟨A,c,rfl⟩:=aZ HO.out;have j:=Kj x (Bk [] (W1.take k));rw[HL.out]at j;have D:=hid (NK wr w1 A n c (Bk [] (W1.take k)) x HL.out kR hz HO.out);unfold JQ at D;rw[<-z.out]at D j;have s2:IntKind.i64.wrap ((k:Int)+1)=((k+1:Nat):Int):=lD;obtain⟨R,hR⟩:=iS (Bk [] (W1.take (k+1)));rw[<-hR]at D j;have HR:=hid hR;clear hx z hR;go_wp2_with fail;refine D.out.mono ?_;rintro e w4 ⟨v4,rfl,i,E⟩;obtain⟨A4,c4,rfl⟩:=aZ i;have Q:=hid i;have aa:Hid (aO w1 w4):=eZ E HB.out;clear i E D HO HB;go_wp2_with fail;go_roundw
   case measure=>exact jw
   case rel=>exact ji
  ·obtain rfl:k=W1.length:=by omega
   have gk:=iR ((W1.length:Int)<W1.length);have N:=iR (W1.length<W1.length);have h1:W1.take W1.length=W1:=List.take_length;rw[h1]at HL HO;have c2:=(ag.out.step HB.out).iO 2;have ac:=Lr W1 [];rw[HL.out]at ac;simp only[List.length_nil]at ac;obtain⟨q1,an⟩:=iS n;have aR:q1<=50000:=kR;rw[<-an]at HL HO;obtain⟨w3,rfl⟩:=iS wr;have aq:Hid (aO w w3):=eZ HB.out U.out;have ak:=hid HL.out;have J:=hid HO.out;have am:=HB.out.size;obtain⟨A0,c0,rfl⟩:=aZ J.out;have au:=hid U.out.size;clear h1 an ac HL HO HB ag U M hn hk G;go_wp2_with fail;refine(D2.out _).mono ?_;rintro e w5 ⟨v2,rfl,Y,L⟩;obtain⟨A2,aV,rfl⟩:=aZ Y;have ae:=hid Y;have ah:Hid (aO w w5):=eZ L aq.out;have ay:Hid (w5.ownsRow w1 9 1 (.slice A0 q1 c0) q1 (AD (Bk [] W1))):=dZ J.out (fun y hy=>L.block y (Ae J.out y hy).2);have av:Hid ((Bk (Bk [] W1) ((W2.map (Dx :: ·)).take 0)).length=q1):=ak.out;have aj:w1.heap.size<=w5.heap.size:=AY am L.size;have aw:w.heap.size<=w1.heap.size:=au.out;clear Y L D2 c2 J ak;go_wp2_with fail;go_loopw [3,6] (fun u iv wr=>∃ (k n:Nat),k<=W2.length/\n<=50000+k/\iv= .int .i64 k/\Hid ((Bk (Bk [] W1) ((W2.map (Dx :: ·)).take k)).length=n)/\Hid (wr.ownsRow w1 9 1 u n (AD (Bk (Bk [] W1) ((W2.map (Dx :: ·)).take k))))/\Hid (aO w5 wr)) (fun _ iv _=>W2.length-(intOf iv).toNat)
   case atStart=>exact⟨0,q1,kR,kR,rfl,av.out,(by show World.ownsRow _ _ _ _ _ _ _;rw[List.take_zero];exact ay.out),Ag _ _⟩
   case round=>
    obtain⟨k,n,hk,hn,rfl,HL,HO,HB⟩:=hrel;have hz:=HB.out.size;by_cases M:k<W2.length
    ·obtain⟨x,hx⟩:∃x,W2[k]? =some x:=⟨_,AE M⟩;have z:=hid (N5 (W:=(W2.map (Dx :: ·))) (k:=k) (Bk [] W1) (show(W2.map (Dx :: ·))[k]? =some (Dx :: x) by rw[B0,hx];rfl));have gk:=iQ ((k:Int)<W2.length);have N:=iQ (k<W2.length);have x0:(0:Int)<=(k:Int):=kR;have x1:(k:Int)<(W2.length:Int):=kR;obtain⟨g,cg,ab,aP,_⟩:=ae.out.form kR;injection ab with hA1 hA2 hA3;subst hA1 hA3;have ck:wr.cell? ⟨g,k,none⟩=some (.string (bs x)):=(by have h:=ae.out.cellAt k kR;rw[<-GM hx,<-h];exact HB.out.cell (p:=⟨g,k,none⟩) (Ae ae.out g rfl).2);have kc:=RQ x;have aT:(bs x).size<=100000:=(by rw[CO];have:=ax.out x (BP hx);omega);obtain⟨A,c,rfl⟩:=aZ HO.out;have j:=Kj (Dx :: x) (Bk (Bk [] W1) ((W2.map (Dx :: ·)).take k));rw[HL.out]at j;have D:=hid (NK wr w1 A n c (Bk (Bk [] W1) ((W2.map (Dx :: ·)).take k)) (Dx :: x) HL.out kR (AY aj hz) HO.out);unfold JQ at D;rw[<-z.out]at D j;have s2:IntKind.i64.wrap ((k:Int)+1)=((k+1:Nat):Int):=lD;obtain⟨R,hR⟩:=iS (Bk (Bk [] W1) ((W2.map (Dx :: ·)).take (k+1)));rw[<-hR]at D j;have HR:=hid hR;clear hx z hR;go_wp2_with fail;refine D.out.mono ?_;rintro e w4 ⟨v4,rfl,i,E⟩;obtain⟨A4,c4,rfl⟩:=aZ i;have Q:=hid i;have aa:Hid (aO w5 w4):=eZ E HB.out;clear i E D HO HB;go_wp2_with fail;go_roundw
     case measure=>exact jw
     case rel=>exact ji
    ·obtain rfl:k=W2.length:=by omega
     have gk:=iR ((W2.length:Int)<W2.length);have N:=iR (W2.length<W2.length);have h2:(W2.map (Dx :: ·)).take W2.length=W2.map (Dx :: ·):=BR (by rw[Cg];exact Ai _);rw[h2,<-HT.out]at HL HO;have aQ:Hid (aO w wr):=eZ HB.out ah.out;have az:Hid (wr.ownsRow w 9 1 u3 n (AD TS)):=iZ HO.out aw;clear h2 HO HB HT;go_wp2_with fail;go_ret;exact⟨_,rfl,by rw[HL.out];exact az.out,aQ.out⟩
end Idx
namespace Idx
open Go.RowKit Mem Own Canon Sift
def Eo(ls:List Str)(i _j:Nat):Value:= .string (bs (ls.getD i []))
theorem TJ(l:List Str)(i j:Nat)(hi:i<l.length)(hj:j<1):(AD l)[i*1+j]? =some (Eo l i j):=by
 obtain rfl:j=0:=kR
 rw[EF,CT];unfold Eo;rw[Ar,AE hi];exact GM (AE hi)
theorem II{base c:Nat}{l:List Str}(h:w.ownsRow base 9 1 (.slice A n c) n (AD l)):Row w w A n 1 (Eo l):=
 Row.of_own h rfl fun i j hi hj=>TJ l i j (by have:=h.1;rw[Ob]at this;omega) hj
theorem Row.str{B:Nat}{l:List Str}(h:Row w B A n 1 (Eo l))(hn:l.length=n)(hk:k<n):
 ∃b i x,A=some ⟨b,i,none⟩/\b<B/\l[k]? =some x/\w.cell? ⟨b,i+k,none⟩=some (.string (bs x)):=by
 obtain⟨b,i,rfl,hb,hc⟩:=h kR;have c0:=hc k 0 hk kR;rw[EF,CT]at c0;unfold Eo at c0;rw[Ar,AE (show k<l.length by omega)]at c0;exact⟨b,i,_,rfl,hb,AE kR,c0⟩
theorem QI(w:World)(A:Option Addr)(n c:Nat)(ls:List Str)(s:Str)(hn:ls.length=n)(hN:n<=1000000)(ha:Row w w A n 1 (Eo ls)):
 Calls prog 70 #[.slice A n c, .string (bs s)] w fun e w'=>e= .returned (.bool (ls.contains s))/\w'=w:=by
 have HN:=hid hn;have HY:Hid (∀k:Nat,ls[k]? =some s->ls.contains s=true):=fun k h=>by rw[List.contains_iff_mem];exact BP h
 have j:Hid ((∀ (i:Nat) (x:Str),ls[i]? =some x->x≠s)->ls.contains s=false):=fun(h:∀ (i:Nat) (x:Str),ls[i]? =some x->x≠s)=>by rw[FL];intro hc;rw[List.contains_iff_mem]at hc;obtain⟨i,hi,e⟩:=List.getElem_of_mem hc;exact h i _ (AE hi) e
 generalize ls.contains s=R at *;clear hn;go_enter func70,ntmps70;go_wp2_with fail;go_loopw [5] (fun iv wx=>∃k:Nat,k<=n/\iv= .int .i64 k/\Hid (∀ (i:Nat) (x:Str),i<k->ls[i]? =some x->x≠s)/\wx=w) (fun iv _=>n-(intOf iv).toNat)
 case atStart=>exact⟨0,kR,rfl,fun i x h=>absurd h kR,rfl⟩
 case round=>
  obtain⟨k,hk,rfl,HS,rfl⟩:=hrel;by_cases z:k<n
  ·have gk:=iQ ((k:Int)<n);have E:=iQ (k<n);have x0:(0:Int)<=(k:Int):=kR;have x1:(k:Int)<(n:Int):=kR;obtain⟨b,J,x,rfl,_,hx,ck⟩:=Row.str ha HN.out z;by_cases he:x=s
   ·have ge:((bs x).toList==(bs s).toList)=true:=my;have hr:=HY.out k (by rw[hx,he]);subst hr;clear HS hx he HY j;go_wp2_with fail;go_ret;exact⟨rfl,rfl⟩
   ·have ge:((bs x).toList==(bs s).toList)=false:=by rw[str_eq];simpa using he
    have G:Hid (∀i y,i<k+1->ls[i]? =some y->y≠s):=fun i y h hy=>by
     by_cases e:i<k
     ·exact HS.out i y e hy
     ·obtain rfl:i=k:=by omega
      rw[hx]at hy;injection hy with hy;rw[<-hy];exact he
    have s2:IntKind.i64.wrap ((k:Int)+1)=((k+1:Nat):Int):=lD;clear HS hx he;go_wp2_with fail;go_roundw
    case measure=>exact jw
    case rel=>go_light;exact⟨k+1,kR,i5,G.out,i7⟩
  ·obtain rfl:k=n:=by omega
   have gk:=iR ((k:Int)<k);have E:=iR (k<k);have hr:=j.out (fun i x hx=>HS.out i x (by have:=(Ch.1 hx).1;have:=HN.out;omega) hx);subst hr;clear HS HY j z;go_wp2_with fail;go_ret;exact⟨rfl,rfl⟩
end Idx
namespace Idx
open Go.RowKit Mem Own Canon Sift
theorem Zh(w:World)(A A2:Option Addr)(n n2 c c2:Nat)(ls ms:List Str)(hn:ls.length=n)(G:ms.length=n2)(hN:n<=3000000000)(ha:Row w w A n 1 (Eo ls))(U:Row w w A2 n2 1 (Eo ms)):
 Calls prog 66 #[.slice A n c, .slice A2 n2 c2] w fun e w'=>e= .returned (.bool (decide (ls=ms)))/\∃q,w'=w.drewN q:=by
 have HN:=hid hn;have aa:=hid G
 have HY:Hid (n=n2->(∀i,i<n->ls.getD i []=ms.getD i [])->decide (ls=ms)=true):=fun he h=>Aw (List.ext_getElem kR fun i h1 h2=>by
  have:=h i kR
  rwa [Ar,Ar,AE h1,AE h2]at this)
 have z:Hid (∀ (i:Nat) x y,ls[i]? =some x->ms[i]? =some y->x≠y->decide (ls=ms)=false):=fun i x y hx hy hne=>Az fun e=>l8
 have E:Hid (n≠n2->decide (ls=ms)=false):=fun hne=>Az fun e=>by rw[e]at hn;omega
 generalize decide (ls=ms)=R at *;clear hn G;by_cases he:n=n2
 ·have z1:((n:Int) != (n2:Int))=false:=by simp;omega
  have Y:(n != n2)=false:=nB
  clear E;go_enter func66,ntmps66;go_wp2_with fail;go_loopw [5] (fun iv wx=>∃k:Nat,k<=n/\iv= .int .i64 k/\Hid (∀i,i<k->ls.getD i []=ms.getD i [])/\Hid (∃q,wx=w.drewN q)) (fun iv _=>n-(intOf iv).toNat)
  case atStart=>exact⟨0,kR,rfl,fun i h=>absurd h kR,0,rfl⟩
  case round=>
   obtain⟨k,hk,rfl,HS,HQ⟩:=hrel;by_cases M:k<n
   ·have gk:=iQ ((k:Int)<n);have N:=iQ (k<n);have x0:(0:Int)<=(k:Int):=kR;have x1:(k:Int)<(n:Int):=kR;have x2:(k:Int)<(n2:Int):=kR;have Q:Row wr w A n 1 (Eo ls):=(by obtain⟨q,hq⟩:=HQ.out;rw[hq];exact ha);have L:Row wr w A2 n2 1 (Eo ms):=(by obtain⟨q,hq⟩:=HQ.out;rw[hq];exact U);obtain⟨b,ac,x,rfl,_,hx,ck⟩:=Row.str Q HN.out M;obtain⟨b2,ab,y,rfl,_,hy,ae⟩:=Row.str L aa.out (show k<n2 by omega);have J:Hid (∀nq,∃q,wr.drewN nq=w.drewN q):=fun nq=>by obtain⟨q,hq⟩:=HQ.out;exact⟨_,mj⟩
    by_cases j:x=y
    ·have ge:((bs x).toList==(bs y).toList)=true:=by rw[str_eq];simpa using j
     have Z:Hid (∀i,i<k+1->ls.getD i []=ms.getD i []):=fun i h=>by
      by_cases e:i<k
      ·exact HS.out i e
      ·obtain rfl:i=k:=by omega
       rw[Ar,Ar,hx,hy,j]
     clear HS hx hy j HQ he;go_wp2_with fail;go_quiet (fail);go_wp2_with fail;go_roundw
     case measure=>exact jw
     case rel=>exact jl
    ·have ge:((bs x).toList==(bs y).toList)=false:=(by rw[str_eq];simpa using j);obtain rfl:=z.out k x y hx hy j;clear HS HY z hx hy j HQ he;go_wp2_with fail;go_quiet (fail);go_wp2_with fail;go_ret;exact⟨rfl,J.out _⟩
   ·obtain rfl:k=n:=by omega
    have gk:=iR ((k:Int)<k);have N:=iR (k<k);obtain rfl:=HY.out he HS.out;clear HS HY z M he;go_wp2_with fail;go_ret;exact⟨rfl,HQ.out⟩
 ·have z1:((n:Int) != (n2:Int))=true:=by simp;omega
  have Y:(n != n2)=true:=nB
  obtain rfl:=E.out he;clear HY z E he;go_enter func66,ntmps66;go_wp2_with fail;go_ret;exact⟨rfl,0,rfl⟩
end Idx
end Go.Proofs.YtfgdoknipbpfhaaGreatDoor
