/- Rows of texts: what  -/
import Derived.Test.YtbgoibedicbkjaaGreatDoorZBodyLogs14
namespace Go.Proofs.YtbgoibedicbkjaaGreatDoor
open Go.Lib (hid)
set_option maxHeartbeats 2000000
set_option maxRecDepth 100000
namespace Idx
open Go.RowKit Mem Own Canon Sift
open Go.Proofs.YtbgoibedicbkjaaGreatDoor.Crc (Dx)
section
variable {w:World} {base n c s:Nat} {e:TypeId} {A:Option Addr} {xs:List Value}
theorem Pn(h:w.ownsRow base e 1 (.slice A n c) n xs)(m:Nat)(hm:m<=n):Src w A m c 1 (xs.take m):=by
 have hl:=h.1;refine⟨by rw[AO,hl];omega,?_⟩;rcases h.2 with ⟨hv,h0⟩|⟨g,i,cur,hv,_⟩
 ·injection hv with e1 e2 e3;subst e1 e2 e3;exact .inl ⟨rfl,by omega,rfl⟩
 ·injection hv with e1 e2 e3;subst e1 e3;refine .inr ⟨_,rfl,fun j u hu=> ?_⟩;have hj:j<m:=by have:=(BO.1 hu).1;rw[AO]at this;omega
  rw[Mem.add_none,Bq,h.cellAt j (by omega)]
  rwa [Hs,Ab hj]at hu
theorem Pb(h:w.ownsRow base e 1 (.slice A n c) n xs)(k:Nat)(hk:k<=n):Src w (vZ A k c 1) (n-k) (c-k) 1 (xs.drop k):=by
 have hl:=h.1;refine⟨by rw[AQ,hl];omega,?_⟩;rcases h.2 with ⟨hv,h0⟩|⟨g,y,cur,hv,_,_,hc,_⟩
 ·injection hv with e1 e2 e3;subst e1 e2 e3;obtain rfl:k=0:=by omega
  exact .inl ⟨rfl,rfl,rfl⟩
 ·injection hv with e1 e2 e3;subst e1 e3;have i:∀j u,(xs.drop k)[j]? =some u->w.cell? ⟨g,k+j,none⟩=some u:=fun j u hu=>by rw[Iz]at hu;have hj:=(BO.1 hu).1;rw[h.cellAt (k+j) (by omega)];exact hu
  unfold vZ;split
  ·refine .inr ⟨_,rfl,fun j u hu=> ?_⟩;have hj:=(BO.1 hu).1;rw[AQ]at hj;omega
  ·exact .inr ⟨_,rfl,fun j u hu=>by show w.cell? (Addr.add (Addr.add ⟨g,0,none⟩ (k*1)) j)=_;rw[Mem.add_none,Mem.add_none,Bq,EM];exact i j u hu⟩
theorem O2(h:w.ownsRow base e 1 (.slice A n c) n xs):n<=c/\∀a,A=some a->a.add 0=a:=by
 rcases h.2 with ⟨hv,h0⟩|⟨g,i,cur,hv,_,_,hc,_⟩
 ·injection hv with e1 e2 e3;subst e1 e2 e3;exact⟨Aj _,fun a ha=>by cases ha⟩
 ·injection hv with e1 e2 e3;subst e1 e3;exact⟨hc,fun a ha=>by injection ha with ha;subst ha;exact Mem.add_none _ _ _⟩
end
theorem JD(l:List Str):∀u∈tZ l,u.oneCell'=true:=by intro u hu;obtain⟨x,_,rfl⟩:=Ep.1 hu;rfl
theorem Gd{l:List Str}{i:Nat}{x:Str}(h:l[i]? =some x):(tZ l)[i]? =some (.string (bs x)):=by simp[tZ,h]
theorem I8(a b:List Str):tZ (a++b)=tZ a++tZ b:=by simp[tZ]
theorem No(a:List Str)(k:Nat):(tZ a).take k=tZ (a.take k):=by simp[tZ,List.map_take]
theorem Sj(a:List Str)(k:Nat):(tZ a).drop k=tZ (a.drop k):=by simp[tZ,List.map_drop]
theorem Mm(a:List Str):(tZ a).length=a.length:=by simp[tZ]
theorem KE(x s:Str):Op.bytesLess (bs x).toList (bs s).toList=decide (x<s):=by rw[FG,FG,Hk,Hk,bytesLess_eq]
theorem str_eq(x s:Str):((bs x).toList==(bs s).toList)=decide (x=s):=by rw[FG,FG,Hk,Hk];exact ID.2 (by simp)
def Jd(ts:List Str)(base:Nat)(w:World)(e:Ending)(w':World):Prop:=
 ∃v,e= .returned v/\w'.ownsRow base 9 1 v ts.length (tZ ts)/\Below w.heap.size w w'
theorem M5(w:World)(base:Nat)(A:Option Addr)(n c:Nat)(ls:List Str)(s:Str)(hn:ls.length=n)(hN:n<=3000000000)(ai:base<=w.heap.size)(ab:w.ownsRow base 9 1 (.slice A n c) n (tZ ls)):
 Calls Tryz.prog 128 #[.slice A n c, .string (bs s)] w (Jd (CN ls s) base w):=by
 obtain⟨j0,Z,Y,U,N⟩:=info_parts JG;have HN:=hid hn;have HO:=hid ab;obtain⟨aG,M⟩:=O2 ab;have HP:Hid (∀k,k<=ls.length->(∀i,(h:i<k)->(h':i<ls.length)->ls[i]<s)->(∀x,ls[k]? =some x->¬x<s)->CN ls s=if ls[k]? =some s then ls else ls.take k++s :: ls.drop k):=Om s ls;unfold Jd;generalize CN ls s=R at *;clear hn ab;go_enter Tryz.func128,Tryz.ntmps128;go_wp2_with fail;go_loopw [5] (fun iv wx=>∃k:Nat,k<=n/\iv= .int .i64 k/\Hid (∀i,(h:i<k)->(h':i<ls.length)->ls[i]<s)/\wx=w) (fun iv _=>n-(intOf iv).toNat)
 case atStart=>exact⟨0,by omega,rfl,fun i h=>absurd h (by omega),rfl⟩
 case round=>
  obtain⟨k,hk,rfl,HS,rfl⟩:=hrel;by_cases aH:k<n
  ·have gk:decide ((k:Int)<(n:Int))=true:=(by simp;omega);have aE:decide (k<n)=true:=(by simp;omega);have x0:(0:Int)<=(k:Int):=(by omega);have x1:(k:Int)<(n:Int):=(by omega);obtain⟨g,cg,aF,aI,_⟩:=HO.out.form (by omega);injection aF with hA1 hA2 hA3;subst hA1 hA3;obtain⟨x,hx⟩:∃x,ls[k]? =some x:=⟨_,AD (by have:=HN.out;omega)⟩;have ck:wr.cell? ⟨g,k,none⟩=some (.string (bs x)):=(by rw[HO.out.cellAt k (by omega)];exact Gd hx);have HX:=hid hx;clear hx;by_cases Q:x<s
   ·have gx:Op.bytesLess (bs x).toList (bs s).toList=true:=by rw[KE];simpa using Q
    have J:Hid (∀i,(h:i<k+1)->(h':i<ls.length)->ls[i]<s):=fun i h h'=>by
     by_cases e:i<k
     ·exact HS.out i e h'
     ·obtain rfl:i=k:=by omega
      have:=HX.out;rw[AD h']at this;injection this with this;rw[this];exact Q
    have s2:IntKind.i64.wrap ((k:Int)+1)=((k+1:Nat):Int):=(by rw[Ak _ (by omega)];omega);clear HS Q;go_wp2_with fail;go_roundw
    case measure=>go_light;simp[intOf];omega
    case rel=>go_light;exact⟨k+1,by omega,by first|rfl|go_num,J.out,by first|rfl|trivial⟩
   ·have gx:Op.bytesLess (bs x).toList (bs s).toList=false:=(by rw[KE];simpa using Q);have L:Hid (∀y,ls[k]? =some y->¬y<s):=fun y hy=>by have h:=HX.out;rw[hy]at h;injection h with h;rw[h];exact Q
    clear Q;by_cases he:x=s
    ·have ge:((bs x).toList==(bs s).toList)=true:=(by rw[str_eq];simpa using he);have HR:Hid (R=ls):=(by have h:=HP.out k (by have:=HN.out;omega) HS.out L.out;rw[Ab (by rw[HX.out,he])]at h;exact h);clear HP HS L HX he;go_wp2_with fail;go_ret;exact⟨_,rfl,by rw[HR.out,HN.out];exact HO.out,Ag _ _⟩
    ·have ge:((bs x).toList==(bs s).toList)=false:=(by rw[str_eq];simpa using he);have ag:Hid (¬ls[k]? =some s):=fun h=>by have h2:=HX.out;rw[h]at h2;injection h2 with h2;exact he h2.symm
     clear HX he;have HR:Hid (R=ls.take k++s :: ls.drop k):=(by have h:=HP.out k (by have:=HN.out;omega) HS.out L.out;rw[Aa ag.out]at h;exact h);have aD:=fun wx=>Dx (P:=Tryz.prog) (t:=33) (s:=1) Tryz.underlying33 (fun _=>by kernel_rfl) (some ⟨g,0,none⟩) n c .i64 (k:Int) k rfl (by omega) M wx;have au:=fun wx=>EG (P:=Tryz.prog) (t:=33) (s:=1) Tryz.underlying33 (fun _=>by kernel_rfl) (some ⟨g,0,none⟩) n c .i64 (k:Int) k rfl hk wx;have ax:Hid (Src wr (some ⟨g,0,none⟩) k c 1 (tZ (ls.take k))):=(by rw[<-No];exact Pn HO.out k hk);have J:Hid (∀wx,Below wr.heap.size wr wx->Src wx (vZ (some ⟨g,0,none⟩) k c 1) (n-k) (c-k) 1 (tZ (ls.drop k))):=fun wx hb=>by rw[<-Sj];exact Pb (dZ HO.out (fun y hy=>hb.block y (Ae HO.out y hy).2)) k hk
     generalize vZ (some ⟨g,0,none⟩) k c 1=A5 at *;generalize c-k=c5 at *;obtain⟨m5,af⟩:∃m5,m5=n-k:=⟨_,rfl⟩;rw[<-af]at J au;have aj:k+m5=n:=(by omega);have aA:=hid aj;have aB:k+1+m5<=3000000001:=(by omega);have aC:k<=3000000000:=(by omega);clear HP HS L ag M HO af aj;go_wp2_with(first|(at_builtin;refine gZ rfl (.tmp 34) (.tmp 37) 33 rfl wr.heap.size 9 j0 _ 1 16 Tryz.underlying33 Z Y U N rfl (by decide) (.slice none 0 0) 0 [] (by rfl) (Am _ _ _ _) _ _ _ _ (by rfl) ax.out (JD _) (by unfold maxLen;omega) (by omega) (Aj _) ?_;intro v4 w4 j ac aa;obtain⟨A4,k4,rfl⟩:=aZ j;have ak:Hid (Below wr.heap.size wr w4):=(Ag _ _).grown ac (Aj _) (fun y hy=>by cases hy);have av:=ak.out.size;rw[Bq,Gb]at j;have aq:=hid j;clear j ac aa)|(at_builtin;refine gZ rfl (.tmp 39) (.tmp 41) 33 rfl wr.heap.size 9 j0 _ 1 16 Tryz.underlying33 Z Y U N rfl (by decide) _ _ _ (by rfl) (aq.out.alloc _) _ 1 1 [.string (bs s)] (by rfl) (Src.of_blk (Blk.made _ _ _) 1 1 1 rfl) (by intro u hu;simp at hu;rcases hu with rfl;rfl) (by unfold maxLen;omega) (by omega) (by simp;omega) ?_;intro v6 w6 z ae ar;obtain⟨A6,k6,rfl⟩:=aZ z;have G:Hid (Below wr.heap.size wr w6):=(kZ av ak.out).grown ae (by simp;omega) (fun y hy=>(Ae aq.out y hy).1);have am:=G.out.size;have an:=hid z;have az:=hid (J.out _ G.out);clear z ae ar)|(at_builtin;refine gZ rfl (.tmp 43) (.tmp 46) 33 rfl wr.heap.size 9 j0 _ 1 16 Tryz.underlying33 Z Y U N rfl (by decide) _ _ _ (by rfl) an.out _ _ _ _ (by rfl) az.out (JD _) (by unfold maxLen;omega) (by omega) am ?_;intro v8 w8 E ah al;have aw:Hid (Below wr.heap.size wr w8):=G.out.grown ah am (fun y hy=>(Ae an.out y hy).1);have ay:=hid E;clear E ah al));go_ret;refine⟨_,rfl,?_,aw.out⟩;have h:=jZ ay.out ai;rw[HR.out];have e1:(tZ (ls.take k)++ [.string (bs s)]++tZ (ls.drop k))=tZ (ls.take k++s :: ls.drop k):=by simp[tZ]
     have e2:(ls.take k++s :: ls.drop k).length=k+1+m5:=(by have h1:=HN.out;have h2:=aA.out;rw[Ai,Bh,AO,AQ];omega);rw[e2,<-e1];exact h
  ·have gk:decide ((k:Int)<(n:Int))=false:=(by simp;omega);have aE:decide (k<n)=false:=(by simp;omega);have L:Hid (∀y,ls[k]? =some y->¬y<s):=fun y hy=>by rw[Gr (by rw[HN.out];omega)]at hy;cases hy
   have ag:Hid (¬ls[k]? =some s):=(by show ¬_;rw[Gr (by rw[HN.out];omega)];simp);have HR:Hid (R=ls.take k++s :: ls.drop k):=(by have h:=HP.out k (by have:=HN.out;omega) HS.out L.out;rw[Aa ag.out]at h;exact h);have aD:=fun wx=>Dx (P:=Tryz.prog) (t:=33) (s:=1) Tryz.underlying33 (fun _=>by kernel_rfl) A n c .i64 (k:Int) k rfl (by omega) M wx;have au:=fun wx=>EG (P:=Tryz.prog) (t:=33) (s:=1) Tryz.underlying33 (fun _=>by kernel_rfl) A n c .i64 (k:Int) k rfl hk wx;have ax:Hid (Src wr A k c 1 (tZ (ls.take k))):=(by rw[<-No];exact Pn HO.out k hk);have J:Hid (∀wx,Below wr.heap.size wr wx->Src wx (vZ A k c 1) (n-k) (c-k) 1 (tZ (ls.drop k))):=fun wx hb=>by rw[<-Sj];exact Pb (dZ HO.out (fun y hy=>hb.block y (Ae HO.out y hy).2)) k hk
   generalize vZ A k c 1=A5 at *;generalize c-k=c5 at *;obtain⟨m5,af⟩:∃m5,m5=n-k:=⟨_,rfl⟩;rw[<-af]at J au;have aj:k+m5=n:=(by omega);have aA:=hid aj;have aB:k+1+m5<=3000000001:=(by omega);have aC:k<=3000000000:=(by omega);clear HP HS L ag M HO af aj;go_wp2_with(first|(at_builtin;refine gZ rfl (.tmp 34) (.tmp 37) 33 rfl wr.heap.size 9 j0 _ 1 16 Tryz.underlying33 Z Y U N rfl (by decide) (.slice none 0 0) 0 [] (by rfl) (Am _ _ _ _) _ _ _ _ (by rfl) ax.out (JD _) (by unfold maxLen;omega) (by omega) (Aj _) ?_;intro v4 w4 j ac aa;obtain⟨A4,k4,rfl⟩:=aZ j;have ak:Hid (Below wr.heap.size wr w4):=(Ag _ _).grown ac (Aj _) (fun y hy=>by cases hy);have av:=ak.out.size;rw[Bq,Gb]at j;have aq:=hid j;clear j ac aa)|(at_builtin;refine gZ rfl (.tmp 39) (.tmp 41) 33 rfl wr.heap.size 9 j0 _ 1 16 Tryz.underlying33 Z Y U N rfl (by decide) _ _ _ (by rfl) (aq.out.alloc _) _ 1 1 [.string (bs s)] (by rfl) (Src.of_blk (Blk.made _ _ _) 1 1 1 rfl) (by intro u hu;simp at hu;rcases hu with rfl;rfl) (by unfold maxLen;omega) (by omega) (by simp;omega) ?_;intro v6 w6 z ae ar;obtain⟨A6,k6,rfl⟩:=aZ z;have G:Hid (Below wr.heap.size wr w6):=(kZ av ak.out).grown ae (by simp;omega) (fun y hy=>(Ae aq.out y hy).1);have am:=G.out.size;have an:=hid z;have az:=hid (J.out _ G.out);clear z ae ar)|(at_builtin;refine gZ rfl (.tmp 43) (.tmp 46) 33 rfl wr.heap.size 9 j0 _ 1 16 Tryz.underlying33 Z Y U N rfl (by decide) _ _ _ (by rfl) an.out _ _ _ _ (by rfl) az.out (JD _) (by unfold maxLen;omega) (by omega) am ?_;intro v8 w8 E ah al;have aw:Hid (Below wr.heap.size wr w8):=G.out.grown ah am (fun y hy=>(Ae an.out y hy).1);have ay:=hid E;clear E ah al));go_ret;refine⟨_,rfl,?_,aw.out⟩;have h:=jZ ay.out ai;rw[HR.out];have e1:(tZ (ls.take k)++ [.string (bs s)]++tZ (ls.drop k))=tZ (ls.take k++s :: ls.drop k):=by simp[tZ]
   have e2:(ls.take k++s :: ls.drop k).length=k+1+m5:=(by have h1:=HN.out;have h2:=aA.out;rw[Ai,Bh,AO,AQ];omega);rw[e2,<-e1];exact h
end Idx
namespace Idx
open Go.RowKit Mem Own Canon Sift
theorem MX{W:List Str}{k:Nat}{x:Str}(i:List Str)(h:W[k]? =some x):yZ i (W.take (k+1))=CN (yZ i (W.take k)) x:=by rw[Ed,h];exact Tf _ _ _
theorem JC(s:Str):∀l,(CN l s).length<=l.length+1
 | []=>by simp[CN]
 |x :: t=>by
  have:=JC s t;rw[CN];split
  ·simp only[List.length_cons];omega
  ·split<;>simp
theorem Ke:∀ (l h:List Str),(yZ h l).length<=h.length+l.length
 | [],h=>by simp[yZ]
 |x :: t,h=>by have h1:=Ke t (CN h x);have h2:=JC x h;unfold yZ at h1 ⊢;rw[List.foldl_cons,Bh];omega
theorem Lo:∀ (l row:List UInt8),∀x∈split row l,1<=x.length/\x.length<=24
 | [],row,x,hx=>by
  rw[split]at hx;unfold tell at hx;split at hx
  ·cases hx
  ·rename_i h;have:=Hq.2 h;obtain rfl:x=row.take 24:=by simpa using hx
   rw[AO];omega
 |c :: t,row,x,hx=>by
  rw[split]at hx;split at hx
  ·exact Lo t _ x hx
  ·rcases BH.1 hx with hx|hx
   ·exact Lo [] row x (by rw[split];exact hx)
   ·exact Lo t [] x hx
theorem MU(l:List UInt8):∀x∈words l,1<=x.length/\x.length<=24:=Lo l []
theorem Td(w:World)(tm lv:Int)(so tx:ByteArray)(hs:so.size<=50000)(ht:tx.size<=50000):
 Calls Tryz.prog 127 #[.agg #[.int .u64 tm, .int .u8 lv, .string so, .string tx]] w (Hd (FB tx.data.toList so.data.toList) w):=by
 have D1:=hid (fun wx=>PT wx tx (by omega));have D2:=hid (fun wx=>PT wx so (by omega));have aE:(words tx.data.toList).length<=50000:=by have:=Ji tx.data.toList;have h2:=Lib.size_eq tx;omega
 have aG:(words so.data.toList).length<=50000:=by have:=Ji so.data.toList;have h2:=Lib.size_eq so;omega
 have hT:FB tx.data.toList so.data.toList=yZ (yZ [] (words tx.data.toList)) ((words so.data.toList).map (Dc :: ·)):=by unfold FB GL;rw[V9]
 have aB:Hid (∀x∈words so.data.toList,x.length<=24):=fun x hx=>(MU _ x hx).2;unfold zX at D1 D2;unfold Hd;generalize words tx.data.toList=W1 at *;generalize words so.data.toList=W2 at *;obtain⟨TS,ai⟩:∃TS,TS=FB tx.data.toList so.data.toList:=⟨_,rfl⟩;rw[<-ai]at hT ⊢;have HT:=hid hT;have aH:so.size<=50000:=hs;clear hT ai hs ht;go_enter Tryz.func127,Tryz.ntmps127;go_wp2_with fail;have an:Below w.heap.size w (w.alloc (.cells #[.int .u64 tm, .int .u8 lv, .string so, .string tx] 59)):=bZ (Ag _ _);have al:Blk (w.alloc (.cells #[.int .u64 tm, .int .u8 lv, .string so, .string tx] 59)) w.heap.size 59 #[.int .u64 tm, .int .u8 lv, .string so, .string tx]:=Blk.made _ _ _;generalize w.alloc (.cells #[.int .u64 tm, .int .u8 lv, .string so, .string tx] 59)=wa at *;refine(D1.out _).mono ?_;rintro e w1 ⟨v1,rfl,Y,ab⟩;obtain⟨A1,c1,rfl⟩:=aZ Y;have M:=hid Y;have N:Hid (Below w.heap.size w w1):=eZ ab an;have am:=hid (al.step ab);clear Y ab an al D1;go_wp2_with fail;go_loopw [3,5] (fun u iv wr=>∃ (k n:Nat),k<=W1.length/\n<=0+k/\iv= .int .i64 k/\Hid ((yZ [] (W1.take k)).length=n)/\Hid (wr.ownsRow w1.heap.size 9 1 u n (tZ (yZ [] (W1.take k))))/\Hid (Below w1.heap.size w1 wr)) (fun _ iv _=>W1.length-(intOf iv).toNat)
 case atStart=>exact⟨0,0,by omega,by omega,rfl,rfl,Am _ _ _ _,Ag _ _⟩
 case round=>
  obtain⟨k,n,hk,hn,rfl,HL,HO,HB⟩:=hrel;have hz:=HB.out.size;by_cases J:k<W1.length
  ·obtain⟨x,hx⟩:∃x,W1[k]? =some x:=⟨_,AD J⟩;have E:=hid (MX (W:=W1) (k:=k) [] (show W1[k]? =some x by exact hx));have gk:decide ((k:Int)<(W1.length:Int))=true:=(by simp;omega);have U:decide (k<W1.length)=true:=(by simp;omega);have x0:(0:Int)<=(k:Int):=(by omega);have x1:(k:Int)<(W1.length:Int):=(by omega);obtain⟨g,cg,Z,aA,_⟩:=M.out.form (by omega);injection Z with hA1 hA2 hA3;subst hA1 hA3;have ck:wr.cell? ⟨g,k,none⟩=some (.string (bs x)):=(by have h:=M.out.cellAt k (by omega);rw[<-Gd hx,<-h];exact HB.out.cell (p:=⟨g,k,none⟩) (Ae M.out g rfl).2);obtain⟨A,c,rfl⟩:=aZ HO.out;have i:=JC x (yZ [] (W1.take k));rw[HL.out]at i;have D:=hid (M5 wr w1.heap.size A n c (yZ [] (W1.take k)) x HL.out (by omega) hz HO.out);unfold Jd at D;rw[<-E.out]at D i;have s2:IntKind.i64.wrap ((k:Int)+1)=((k+1:Nat):Int):=(by rw[Ak _ (by omega)];omega);obtain⟨R,hR⟩:∃R,R=yZ [] (W1.take (k+1)):=⟨_,rfl⟩;rw[<-hR]at D i;have HR:=hid hR;clear hx E hR;go_wp2_with fail;refine D.out.mono ?_;rintro e w4 ⟨v4,rfl,j,z⟩;obtain⟨A4,c4,rfl⟩:=aZ j;have ae:=hid j;have ac:Hid (Below w1.heap.size w1 w4):=eZ z HB.out;clear j z D HO HB;go_wp2_with fail;go_roundw
   case measure=>go_light;simp[intOf];omega
   case rel=>go_light;exact⟨k+1,R.length,by omega,by omega,by first|rfl|go_num,by show _=_;rw[<-HR.out],by show World.ownsRow _ _ _ _ _ _ _;rw[<-HR.out];exact ae.out,ac.out⟩
  ·obtain rfl:k=W1.length:=by omega
   have gk:decide ((W1.length:Int)<(W1.length:Int))=false:=(by simp);have U:decide (W1.length<W1.length)=false:=(by simp);have h1:W1.take W1.length=W1:=List.take_length;rw[h1]at HL HO;have c2:=(am.out.step HB.out).cell 2;simp only[List.getElem?_toArray,List.getElem?_cons_zero,List.getElem?_cons_succ]at c2;have af:=Ke W1 [];rw[HL.out]at af;simp only[List.length_nil]at af;obtain⟨q1,aq⟩:∃q1,q1=n:=⟨_,rfl⟩;have aC:q1<=50000:=(by omega);rw[<-aq]at HL HO;obtain⟨w3,rfl⟩:∃w3:World,w3=wr:=⟨_,rfl⟩;have ar:Hid (Below w.heap.size w w3):=eZ HB.out N.out;have ak:=hid HL.out;have G:=hid HO.out;have ah:=HB.out.size;obtain⟨A0,c0,rfl⟩:=aZ G.out;have av:=hid N.out.size;clear h1 aq af HL HO HB am N J hn hk M;go_wp2_with fail;refine(D2.out _).mono ?_;rintro e w5 ⟨v2,rfl,aa,L⟩;obtain⟨A2,aF,rfl⟩:=aZ aa;have Q:=hid aa;have aj:Hid (Below w.heap.size w w5):=eZ L ar.out;have ax:Hid (w5.ownsRow w1.heap.size 9 1 (.slice A0 q1 c0) q1 (tZ (yZ [] W1))):=dZ G.out (fun y hy=>L.block y (Ae G.out y hy).2);have ay:Hid ((yZ (yZ [] W1) ((W2.map (Dc :: ·)).take 0)).length=q1):=ak.out;have ag:w1.heap.size<=w5.heap.size:=AV ah L.size;have aw:w.heap.size<=w1.heap.size:=av.out;clear aa L D2 c2 G ak;go_wp2_with fail;go_loopw [3,6] (fun u iv wr=>∃ (k n:Nat),k<=W2.length/\n<=50000+k/\iv= .int .i64 k/\Hid ((yZ (yZ [] W1) ((W2.map (Dc :: ·)).take k)).length=n)/\Hid (wr.ownsRow w1.heap.size 9 1 u n (tZ (yZ (yZ [] W1) ((W2.map (Dc :: ·)).take k))))/\Hid (Below w5.heap.size w5 wr)) (fun _ iv _=>W2.length-(intOf iv).toNat)
   case atStart=>exact⟨0,q1,by omega,by omega,rfl,ay.out,(by show World.ownsRow _ _ _ _ _ _ _;rw[List.take_zero];exact ax.out),Ag _ _⟩
   case round=>
    obtain⟨k,n,hk,hn,rfl,HL,HO,HB⟩:=hrel;have hz:=HB.out.size;by_cases J:k<W2.length
    ·obtain⟨x,hx⟩:∃x,W2[k]? =some x:=⟨_,AD J⟩;have E:=hid (MX (W:=(W2.map (Dc :: ·))) (k:=k) (yZ [] W1) (show(W2.map (Dc :: ·))[k]? =some (Dc :: x) by rw[Bw,hx];rfl));have gk:decide ((k:Int)<(W2.length:Int))=true:=(by simp;omega);have U:decide (k<W2.length)=true:=(by simp;omega);have x0:(0:Int)<=(k:Int):=(by omega);have x1:(k:Int)<(W2.length:Int):=(by omega);obtain⟨g,cg,Z,aA,_⟩:=Q.out.form (by omega);injection Z with hA1 hA2 hA3;subst hA1 hA3;have ck:wr.cell? ⟨g,k,none⟩=some (.string (bs x)):=(by have h:=Q.out.cellAt k (by omega);rw[<-Gd hx,<-h];exact HB.out.cell (p:=⟨g,k,none⟩) (Ae Q.out g rfl).2);have kc:=QQ x;have aD:(bs x).size<=100000:=(by rw[Cy];have:=aB.out x (BF hx);omega);obtain⟨A,c,rfl⟩:=aZ HO.out;have i:=JC (Dc :: x) (yZ (yZ [] W1) ((W2.map (Dc :: ·)).take k));rw[HL.out]at i;have D:=hid (M5 wr w1.heap.size A n c (yZ (yZ [] W1) ((W2.map (Dc :: ·)).take k)) (Dc :: x) HL.out (by omega) (AV ag hz) HO.out);unfold Jd at D;rw[<-E.out]at D i;have s2:IntKind.i64.wrap ((k:Int)+1)=((k+1:Nat):Int):=(by rw[Ak _ (by omega)];omega);obtain⟨R,hR⟩:∃R,R=yZ (yZ [] W1) ((W2.map (Dc :: ·)).take (k+1)):=⟨_,rfl⟩;rw[<-hR]at D i;have HR:=hid hR;clear hx E hR;go_wp2_with fail;refine D.out.mono ?_;rintro e w4 ⟨v4,rfl,j,z⟩;obtain⟨A4,c4,rfl⟩:=aZ j;have ae:=hid j;have ac:Hid (Below w5.heap.size w5 w4):=eZ z HB.out;clear j z D HO HB;go_wp2_with fail;go_roundw
     case measure=>go_light;simp[intOf];omega
     case rel=>go_light;exact⟨k+1,R.length,by omega,by omega,by first|rfl|go_num,by show _=_;rw[<-HR.out],by show World.ownsRow _ _ _ _ _ _ _;rw[<-HR.out];exact ae.out,ac.out⟩
    ·obtain rfl:k=W2.length:=by omega
     have gk:decide ((W2.length:Int)<(W2.length:Int))=false:=(by simp);have U:decide (W2.length<W2.length)=false:=(by simp);have h2:(W2.map (Dc :: ·)).take W2.length=W2.map (Dc :: ·):=Bv (by rw[BN];exact Aj _);rw[h2,<-HT.out]at HL HO;have au:Hid (Below w.heap.size w wr):=eZ HB.out aj.out;have az:Hid (wr.ownsRow w.heap.size 9 1 u3 n (tZ TS)):=jZ HO.out aw;clear h2 HO HB HT;go_wp2_with fail;go_ret;exact⟨_,rfl,by rw[HL.out];exact az.out,au.out⟩
end Idx
namespace Idx
open Go.RowKit Mem Own Canon Sift
def Ec(ls:List Str)(i _j:Nat):Value:= .string (bs (ls.getD i []))
theorem UB(l:List Str)(i j:Nat)(hi:i<l.length)(hj:j<1):(tZ l)[i*1+j]? =some (Ec l i j):=by
 obtain rfl:j=0:=by omega
 rw[EM,CW];unfold Ec;rw[Ar,AD hi];exact Gd (AD hi)
theorem Ic{w:World}{base n c:Nat}{A:Option Addr}{l:List Str}(h:w.ownsRow base 9 1 (.slice A n c) n (tZ l)):Row w w.heap.size A n 1 (Ec l):=
 Row.of_own h rfl fun i j hi hj=>UB l i j (by have:=h.1;rw[Mm]at this;omega) hj
theorem Row.str{w:World}{B n:Nat}{A:Option Addr}{l:List Str}(h:Row w B A n 1 (Ec l))(hn:l.length=n){k:Nat}(hk:k<n):
 ∃b i x,A=some ⟨b,i,none⟩/\b<B/\l[k]? =some x/\w.cell? ⟨b,i+k,none⟩=some (.string (bs x)):=by
 obtain⟨b,i,rfl,hb,hc⟩:=h (by omega);have c0:=hc k 0 hk (by omega);rw[EM,CW]at c0;unfold Ec at c0;rw[Ar,AD (show k<l.length by omega)]at c0;exact⟨b,i,_,rfl,hb,AD (by omega),c0⟩
theorem OP(w:World)(A:Option Addr)(n c:Nat)(ls:List Str)(s:Str)(hn:ls.length=n)(hN:n<=1000000)(ha:Row w w.heap.size A n 1 (Ec ls)):
 Calls Tryz.prog 129 #[.slice A n c, .string (bs s)] w fun e w'=>e= .returned (.bool (ls.contains s))/\w'=w:=by
 have HN:=hid hn;have HY:Hid (∀k:Nat,ls[k]? =some s->ls.contains s=true):=fun k h=>by rw[List.contains_iff_mem];exact BF h
 have j:Hid ((∀ (i:Nat) (x:Str),ls[i]? =some x->x≠s)->ls.contains s=false):=fun(h:∀ (i:Nat) (x:Str),ls[i]? =some x->x≠s)=>by rw[Fj];intro hc;rw[List.contains_iff_mem]at hc;obtain⟨i,hi,e⟩:=List.getElem_of_mem hc;exact h i _ (AD hi) e
 generalize ls.contains s=R at *;clear hn;go_enter Tryz.func129,Tryz.ntmps129;go_wp2_with fail;go_loopw [5] (fun iv wx=>∃k:Nat,k<=n/\iv= .int .i64 k/\Hid (∀ (i:Nat) (x:Str),i<k->ls[i]? =some x->x≠s)/\wx=w) (fun iv _=>n-(intOf iv).toNat)
 case atStart=>exact⟨0,by omega,rfl,fun i x h=>absurd h (by omega),rfl⟩
 case round=>
  obtain⟨k,hk,rfl,HS,rfl⟩:=hrel;by_cases z:k<n
  ·have gk:decide ((k:Int)<(n:Int))=true:=(by simp;omega);have G:decide (k<n)=true:=(by simp;omega);have x0:(0:Int)<=(k:Int):=(by omega);have x1:(k:Int)<(n:Int):=(by omega);obtain⟨b,J,x,rfl,_,hx,ck⟩:=Row.str ha HN.out z;by_cases he:x=s
   ·have ge:((bs x).toList==(bs s).toList)=true:=(by rw[str_eq];simpa using he);have hr:=HY.out k (by rw[hx,he]);subst hr;clear HS hx he HY j;go_wp2_with fail;go_ret;exact⟨rfl,rfl⟩
   ·have ge:((bs x).toList==(bs s).toList)=false:=by rw[str_eq];simpa using he
    have E:Hid (∀i y,i<k+1->ls[i]? =some y->y≠s):=fun i y h hy=>by
     by_cases e:i<k
     ·exact HS.out i y e hy
     ·obtain rfl:i=k:=by omega
      rw[hx]at hy;injection hy with hy;rw[<-hy];exact he
    have s2:IntKind.i64.wrap ((k:Int)+1)=((k+1:Nat):Int):=(by rw[Ak _ (by omega)];omega);clear HS hx he;go_wp2_with fail;go_roundw
    case measure=>go_light;simp[intOf];omega
    case rel=>go_light;exact⟨k+1,by omega,by first|rfl|go_num,E.out,by first|rfl|trivial⟩
  ·obtain rfl:k=n:=by omega
   have gk:decide ((k:Int)<(k:Int))=false:=(by simp);have G:decide (k<k)=false:=(by simp);have hr:=j.out (fun i x hx=>HS.out i x (by have:=(BO.1 hx).1;have:=HN.out;omega) hx);subst hr;clear HS HY j z;go_wp2_with fail;go_ret;exact⟨rfl,rfl⟩
end Idx
namespace Idx
open Go.RowKit Mem Own Canon Sift
theorem Xn(w:World)(A A2:Option Addr)(n n2 c c2:Nat)(ls ms:List Str)(hn:ls.length=n)(G:ms.length=n2)(hN:n<=3000000000)(ha:Row w w.heap.size A n 1 (Ec ls))(aa:Row w w.heap.size A2 n2 1 (Ec ms)):
 Calls Tryz.prog 45 #[.slice A n c, .slice A2 n2 c2] w fun e w'=>e= .returned (.bool (decide (ls=ms)))/\∃q,w'=w.drewN q:=by
 have HN:=hid hn;have Z:=hid G
 have HY:Hid (n=n2->(∀i,i<n->ls.getD i []=ms.getD i [])->decide (ls=ms)=true):=fun he h=>Aw (List.ext_getElem (by omega) fun i h1 h2=>by
  have:=h i (by omega)
  rwa [Ar,Ar,AD h1,AD h2]at this)
 have z:Hid (∀ (i:Nat) x y,ls[i]? =some x->ms[i]? =some y->x≠y->decide (ls=ms)=false):=fun i x y hx hy hne=>Az fun e=>by rw[e,hy]at hx;injection hx with hx;exact hne hx.symm
 have E:Hid (n≠n2->decide (ls=ms)=false):=fun hne=>Az fun e=>by rw[e]at hn;omega
 generalize decide (ls=ms)=R at *;clear hn G;by_cases he:n=n2
 ·have z1:((n:Int) != (n2:Int))=false:=by simp;omega
  have Y:(n != n2)=false:=by simpa using he
  clear E;go_enter Tryz.func45,Tryz.ntmps45;go_wp2_with fail;go_loopw [5] (fun iv wx=>∃k:Nat,k<=n/\iv= .int .i64 k/\Hid (∀i,i<k->ls.getD i []=ms.getD i [])/\Hid (∃q,wx=w.drewN q)) (fun iv _=>n-(intOf iv).toNat)
  case atStart=>exact⟨0,by omega,rfl,fun i h=>absurd h (by omega),0,rfl⟩
  case round=>
   obtain⟨k,hk,rfl,HS,HQ⟩:=hrel;by_cases M:k<n
   ·have gk:decide ((k:Int)<(n:Int))=true:=(by simp;omega);have U:decide (k<n)=true:=(by simp;omega);have x0:(0:Int)<=(k:Int):=(by omega);have x1:(k:Int)<(n:Int):=(by omega);have x2:(k:Int)<(n2:Int):=(by omega);have N:Row wr w.heap.size A n 1 (Ec ls):=(by obtain⟨q,hq⟩:=HQ.out;rw[hq];exact ha);have L:Row wr w.heap.size A2 n2 1 (Ec ms):=(by obtain⟨q,hq⟩:=HQ.out;rw[hq];exact aa);obtain⟨b,ae,x,rfl,_,hx,ck⟩:=Row.str N HN.out M;obtain⟨b2,ab,y,rfl,_,hy,ac⟩:=Row.str L Z.out (show k<n2 by omega);have J:Hid (∀nq,∃q,wr.drewN nq=w.drewN q):=fun nq=>by obtain⟨q,hq⟩:=HQ.out;exact⟨_,by rw[hq];exact CL _ _ _⟩
    by_cases j:x=y
    ·have ge:((bs x).toList==(bs y).toList)=true:=by rw[str_eq];simpa using j
     have Q:Hid (∀i,i<k+1->ls.getD i []=ms.getD i []):=fun i h=>by
      by_cases e:i<k
      ·exact HS.out i e
      ·obtain rfl:i=k:=by omega
       rw[Ar,Ar,hx,hy,j]
     clear HS hx hy j HQ he;go_wp2_with fail;go_quiet (fail);go_wp2_with fail;go_roundw
     case measure=>go_light;simp[intOf];omega
     case rel=>go_light;exact⟨k+1,by omega,by first|rfl|go_num,Q.out,J.out _⟩
    ·have ge:((bs x).toList==(bs y).toList)=false:=(by rw[str_eq];simpa using j);obtain rfl:=z.out k x y hx hy j;clear HS HY z hx hy j HQ he;go_wp2_with fail;go_quiet (fail);go_wp2_with fail;go_ret;exact⟨rfl,J.out _⟩
   ·obtain rfl:k=n:=by omega
    have gk:decide ((k:Int)<(k:Int))=false:=(by simp);have U:decide (k<k)=false:=(by simp);obtain rfl:=HY.out he HS.out;clear HS HY z M he;go_wp2_with fail;go_ret;exact⟨rfl,HQ.out⟩
 ·have z1:((n:Int) != (n2:Int))=true:=by simp;omega
  have Y:(n != n2)=true:=by simpa using he
  obtain rfl:=E.out he;clear HY z E he;go_enter Tryz.func45,Tryz.ntmps45;go_wp2_with fail;go_ret;exact⟨rfl,0,rfl⟩
end Idx
end Go.Proofs.YtbgoibedicbkjaaGreatDoor
