/- Plain: the bits that -/
import Derived.Test.YtfgdoknipbpfhaaGreatDoorZBodyOpened18
import Derived.Test.YtfgdoknipbpfhaaGreatDoorZBodyOpened16
import Derived.Test.YtfgdoknipbpfhaaGreatDoorZBodyOpened12
namespace Go.Proofs.YtfgdoknipbpfhaaGreatDoor
open Go.Proofs.Tryz
open Go.Lib (hid)
set_option maxRecDepth 100000
variable{ks lf ls:List Nat}{base g s:Nat}{w:World}{t:TypeId}
namespace TW
open Canon Huff Lens
open Toks (Tk Pc oZ ED A0 bump CJ Dq Dk lg pw Within)
theorem Jz(hn:ks.length<=300):Ej ks 15=0:=by
 unfold Ej;rw[Ab mz,Ab];have h:=NX (kOf ks) ks.length;show ¬2 ^ (15:Int).toNat<(vZ (kOf ks) ks.length).length;have:(2:Nat) ^ (15:Int).toNat=32768:=ip
 omega
theorem Oq(hn:ks.length<=300)(hs:s<ks.length)(h0:ks.getD s 0≠0):(CV ks 15).getD s 0≠0:=by have hE:=Jz hn;obtain⟨h,L,hL,h1,h2,h3,e⟩:=ok_parts hE;rw[e,V8 hs];have hm:s∈vZ (kOf ks) ks.length:=JV.2 ⟨hs,h0⟩;have:=(Lj h1 h3 hm).1;omega
theorem Pg(l:List Int)(i j:Nat):l.getD j 0<=(bump l i).getD j 0:=by
 unfold bump;simp only[List.getD_eq_getElem?_getD,List.getElem?_set];split
 ·rename_i h;subst h;split
  ·simp;omega
  ·rename_i h2;rw[Fp mz];simp
 ·omega
theorem O8{l:List Int}{i:Nat}(h:i<l.length):(bump l i).getD i 0=l.getD i 0+1:=by unfold bump;simp only[List.getD_eq_getElem?_getD,List.getElem?_set];rw[Ae trivial,Ae h];rfl
theorem QO(st:List Int×List Int)(t:Tk)(j:Nat):st.1.getD j 0<=(CJ st t).1.getD j 0/\st.2.getD j 0<=(CJ st t).2.getD j 0:=by
 unfold CJ;refine⟨Pg _ _ _,?_⟩;simp only;split
 ·omega
 ·exact Pg _ _ _
theorem QA(ts:List Tk):∀ (st:List Int×List Int) (j:Nat),st.1.getD j 0<=(ts.foldl CJ st).1.getD j 0/\st.2.getD j 0<=(ts.foldl CJ st).2.getD j 0:=by
 induction ts with
 |nil=>intro st j;exact⟨pI,pI⟩
 |cons t ts ih=>intro st j;have h:=ih (CJ st t) j;have h2:=QO st t j;rw[List.foldl_cons];exact⟨mz,mz⟩
theorem O4{t:Tk}:∀ (ts:List Tk) (st:List Int×List Int),t∈ts->
 ((oZ t).sym.toNat<st.1.length->st.1.getD (oZ t).sym.toNat 0+1<=(ts.foldl CJ st).1.getD (oZ t).sym.toNat 0)/\
 (t.len≠0->(oZ t).dist.toNat<st.2.length->st.2.getD (oZ t).dist.toNat 0+1<=(ts.foldl CJ st).2.getD (oZ t).dist.toNat 0)
 | [],_,h=>by cases h
 |x :: ts,st,h=>by
  rw[List.foldl_cons];have hl:=Toks.Qy st x;have hs:=QO st x;rcases AQ.1 h with rfl|h
  ·refine⟨fun hS=> ?_,fun h0 hD=> ?_⟩
   ·have h1:=(QA ts (CJ st t) (oZ t).sym.toNat).1;have h2:(CJ st t).1.getD (oZ t).sym.toNat 0=st.1.getD (oZ t).sym.toNat 0+1:=O8 hS;omega
   ·have h1:=(QA ts (CJ st t) (oZ t).dist.toNat).2;have h2:(CJ st t).2.getD (oZ t).dist.toNat 0=st.2.getD (oZ t).dist.toNat 0+1:=(by unfold CJ;simp only;rw[Ab h0];exact O8 hD);omega
  ·have ih:=O4 ts (CJ st x) h;refine⟨fun hS=> ?_,fun h0 hD=> ?_⟩
   ·have h1:=ih.1 (by rw[hl.1];exact hS);have h2:=(hs (oZ t).sym.toNat).1;omega
   ·have h1:=ih.2 h0 (by rw[hl.2];exact hD);have h2:=(hs (oZ t).dist.toNat).2;omega
theorem Oj{t:Tk}(hl:t.len≠0)(hm:A0 t.lit t.len t.dist=true):
 ∃b L D F:Nat,oZ t=⟨((257+b:Nat):Int),L,D,F⟩/\b<8/\D<12/\L<2 ^ b/\F<2 ^ D:=by
 have hb:t.lit=0/\3<=t.len/\t.len<=257/\1<=t.dist/\t.dist<=4095:=by unfold A0 at hm;rw[Ab hl]at hm;exact of_decide_eq_true hm
 have a1:=Toks.IY (t.len-2);have a2:=Toks.IP (t.len-2) 8 mz mz (by rw[Toks.pw_8];omega);have a3:=Toks.Kx (t.len-2) mz;have a4:=Toks.Mc (t.len-2) mz;have b1:=Toks.IY t.dist;have b2:=Toks.IP t.dist 12 mz mz (by rw[Toks.PQ];omega);have b3:=Toks.Kx t.dist mz;have b4:=Toks.Mc t.dist mz;refine⟨(lg (t.len-2)).toNat,(t.len-2-pw (lg (t.len-2))).toNat,(lg t.dist).toNat,(t.dist-pw (lg t.dist)).toNat,?_,mz,mz,?_,?_⟩
 ·unfold oZ;rw[Ae hm,Ab hl];congr 1<;>omega
 ·have:pw (lg (t.len-2))=((2 ^ (lg (t.len-2)).toNat:Nat):Int):=rfl;omega
 ·have:pw (lg t.dist)=((2 ^ (lg t.dist).toNat:Nat):Int):=rfl;omega
theorem Vd{t:Tk}(h0:0<=t.lit)(hl:t.len=0)(hm:A0 t.lit t.len t.dist=true):oZ t=⟨((t.lit.toNat:Nat):Int),0,0,0⟩:=by unfold oZ;rw[Ae hm,Ae hl,Int.toNat_of_nonneg h0]
def BK(ls lf:List Nat)(t:Tk):List Bool:=
 word ls (oZ t).sym.toNat++if t.len=0 then []else
  msb (oZ t).len.toNat ((oZ t).sym.toNat-257) ((oZ t).sym.toNat-257)++(word lf (oZ t).dist.toNat++msb (oZ t).far.toNat (oZ t).dist.toNat (oZ t).dist.toNat)
def Ib(l:List Int):List Nat:=l.map Int.toNat
theorem Md(l:List Int):(Ib l).length=l.length:=by simp[Ib]
theorem Mk(l:List Int)(i:Nat):(Ib l).getD i 0=(l.getD i 0).toNat:=by unfold Ib;rw[Ar,Ar,BE];cases l[i]? <;>rfl
def ksS(ts:List Tk):List Nat:=Ib (Toks.symsOf ts)
def ksF(ts:List Tk):List Nat:=Ib (Toks.L9 ts)
theorem He(ts:List Tk):(ksS ts).length=265:=by unfold ksS Toks.symsOf;rw[Md,Toks.Pe,(Toks.Ks ts).1]
theorem IU(ts:List Tk):(ksF ts).length=12:=by unfold ksF Toks.L9;rw[Md,(Toks.Ks ts).2]
def lsS(ts:List Tk):List Nat:=CV (ksS ts) 15
def lsF(ts:List Tk):List Nat:=CV (ksF ts) 15
theorem Un(ts:List Tk):(lsS ts).length=265:=by unfold lsS;rw[Nd (Jz oD),He]
theorem Ua(ts:List Tk):(lsF ts).length=12:=by unfold lsF;rw[Nd (Jz (by rw[IU];omega)),IU]
theorem Of(ts:List Tk):okB (lsS ts)=true:=Pa (Jz oD) oD
theorem N9(ts:List Tk):okB (lsF ts)=true:=Pa (Jz (by rw[IU];omega)) (by rw[IU];omega)
theorem O1{ts:List Tk}{t:Tk}(h:t∈ts)(hs:(oZ t).sym.toNat<265):(lsS ts).getD (oZ t).sym.toNat 0≠0:=by
 have h1:=(O4 ts (List.replicate 265 0,List.replicate 12 0) h).1 (by show _<(List.replicate 265 (0:Int)).length;rw[Dr];exact hs);have h2:=Pg (Dq ts).1 256 (oZ t).sym.toNat;refine Oq oD (by rw[He];exact hs) ?_;unfold ksS;rw[Mk];have h3:(List.replicate 265 (0:Int)).getD (oZ t).sym.toNat 0=0:=by simp only[List.getD_eq_getElem?_getD,List.getElem?_replicate];split<;>rfl
 change _<=(Dq ts).1.getD _ 0 at h1
 simp only[h3]at h1;show(Toks.bump (Dq ts).1 256 |>.getD _ 0).toNat≠0;omega
theorem Qo(ts:List Tk):(lsS ts).getD 256 0≠0:=by have h2:(bump (Dq ts).1 256).getD 256 0=(Dq ts).1.getD 256 0+1:=O8 (by rw[(Toks.Ks ts).1];omega);have h1:=(Toks.Mn ts).1 256;refine Oq oD oD ?_;unfold ksS;rw[Mk];show(Toks.bump (Dq ts).1 256 |>.getD _ 0).toNat≠0;omega
theorem OV{ts:List Tk}{t:Tk}(h:t∈ts)(h0:t.len≠0)(hs:(oZ t).dist.toNat<12):(lsF ts).getD (oZ t).dist.toNat 0≠0:=by
 have h1:=(O4 ts (List.replicate 265 0,List.replicate 12 0) h).2 h0 (by show _<(List.replicate 12 (0:Int)).length;rw[Dr];exact hs);refine Oq (by rw[IU];omega) (by rw[IU];exact hs) ?_;unfold ksF;rw[Mk];have h3:(List.replicate 12 (0:Int)).getD (oZ t).dist.toNat 0=0:=by simp only[List.getD_eq_getElem?_getD,List.getElem?_replicate];split<;>rfl
 change _<=(Dq ts).2.getD _ 0 at h1
 simp only[h3]at h1;show((Dq ts).2.getD _ 0).toNat≠0;omega
def Fk(ts:List Tk):List Bool:=Er (lsS ts)++Er (lsF ts)++(ts.flatMap (BK (lsS ts) (lsF ts))++word (lsS ts) 256)
def Io(ts:List Tk):Int:=if 32768<ts.length then 6 else if Dk ts=true then 0 else 7
def GY(ts:List Tk):List Nat:=if Io ts=0 then bytesOf (Fk ts)else []
theorem wrGo_length(ls:List Nat):∀f i,(Da ls f i).length<=10*(ls.length-i)
 |0,i=>by simp[Da]
 |f+1,i=>by
  unfold Da;by_cases h:i<ls.length
  ·rw[Ae h];by_cases h0:ls.getD i 0=0
   ·have hx:ls[i]? =some 0:=(by rw[Ar,AD h]at h0;rw[AD h];exact AE some h0);have r1:1<=BH ls i 64:=(by have:=Kv hx 63;show 1<=BH ls i (63+1);omega);have rf:=Mw ls 64 i mz;have ih:=wrGo_length ls f (i+BH ls i 64);rw[Ae h0,Aj,Aj,pZ,pZ];omega
   ·have ih:=wrGo_length ls f (i+1);rw[Ab h0,Aj,pZ];omega
  ·rw[Ab h];simp
theorem VB(ls:List Nat):(Er ls).length<=10*ls.length:=wrGo_length ls ls.length 0
theorem Lg(h:∀x∈ls,x<=15)(s:Nat):ls.getD s 0<=15:=by
 rw[Ar];cases hx:ls[s]? with
 |none=>simp
 |some x=>simpa using h x (Bg hx)
theorem cV(h:∀x∈ls,x<=15)(h':∀x∈lf,x<=15){t:Tk}(hm:A0 t.lit t.len t.dist=true):(BK ls lf t).length<=48:=by
 unfold BK;have h1:=Lg h (oZ t).sym.toNat;have h2:=Lg h' (oZ t).dist.toNat;by_cases h0:t.len=0
 ·rw[Ae h0,Ce,Ez];omega
 ·obtain⟨b,L,D,F,e,hb,hD,hL,hF⟩:=Oj h0 hm;rw[Ab h0,Aj,Aj,Aj,Ez,Ez,pZ,pZ];rw[e]at h1 h2 ⊢;simp only[Int.toNat_natCast]at h1 h2 ⊢;omega
theorem OL{ls lf:List Nat}(h:∀x∈ls,x<=15)(h':∀x∈lf,x<=15):∀ {ts:List Tk},Dk ts=true->(ts.flatMap (BK ls lf)).length<=48*ts.length
 | [],_=>pI
 |t :: ts,hm=>by unfold Dk at hm;rw[List.all_cons,BX]at hm;have h1:=cV h h' hm.1;have h2:=OL h h' (ts:=ts) hm.2;rw[Ct,Aj,AI];omega
theorem kD{ts:List Tk}{k:Nat}(h:k<ts.length):(ts.take (k+1)).flatMap (BK ls lf)=(ts.take k).flatMap (BK ls lf)++BK ls lf ts[k]:=by rw[List.take_succ_eq_append_getElem h,Ix];simp
end TW
namespace Huff
open Go.RowKit Mem Canon Own
theorem Wr.stepK{K L:Nat->Prop}{w':World}{rest:List Value}{bs:List Bool}{v:Value}(h:Wr K w base g t rest bs v)(hb:Below w w w')(hL:∀k,L k->K k∨w.heap.size<=k/\k<w'.heap.size):Wr L w' base g t rest bs v:=by
 have hv:∀x,v.ownBlock=some x->x<w.heap.size:=fun x hx=>(Am h.own x hx).2;refine⟨h.blk.step hb,eZ h.own (fun x hx=>hb.block x (hv x hx)),h.ne,AN h.base hb.size,fun e=> ?_,fun x hx e=> ?_,fun k e=> ?_⟩
 ·rcases hL _ e with e|e
  ·exact h.kg e
  ·have:=h.blk.lt;omega
 ·rcases hL _ e with e|e
  ·exact h.kv x hx e
  ·have:=hv x hx;omega
 ·rcases hL _ e with e|e
  ·have:=h.kK k e;have:=hb.size;omega
  ·exact e.2
theorem Wr.weak{K L:Nat->Prop}{rest:List Value}{bs:List Bool}{v:Value}(h:Wr K w base g t rest bs v)(hl:∀k,L k->K k):Wr L w base g t rest bs v:=
 ⟨h.blk,h.own,h.ne,h.base,fun e=>h.kg (hl _ e),fun x hx e=>h.kv x hx (hl _ e),fun k e=>h.kK k (hl k e)⟩
theorem Ob{K L:Nat->Prop}{a:World}(h:Kept K a w)(hl:∀k,L k->K k):Kept L a w:=⟨h.os,h.tape,h.output,h.size,fun k e=>h.block k (hl k e)⟩
theorem eM{lo B n:Nat}{A:Option Addr}{f:Nat->Nat->Value}(h:Row w B A n s f)(i:0<n->∀p,A=some p->lo<=p.block):RowIn w lo B A n s f:=fun hn=>by obtain⟨b,j,e,hb,hc⟩:=h hn;exact⟨b,j,e,⟨i hn _ e,hb⟩,hc⟩
def MA(K:Nat->Prop)(w:World)(base g:Nat)(t:TypeId)(rest:List Value)(bs:List Bool)(ls:List Nat)(e:Ending)(w':World):Prop:=
 ∃gc lo v',e= .returned (.pointer (some ⟨gc,0,none⟩))/\w.heap.size<=lo/\Coder w' lo w' gc ls/\Wr (fun x=>K x∨lo<=x/\x<w'.heap.size) w' base g t rest bs v'/\Kept K w w'
theorem TH(K:Nat->Prop)(w:World)(g base:Nat)(t:TypeId)(rest:List Value)(v:Value)(bs:List Bool)(A:Option Addr)(n c:Nat)(ks:List Nat)(hn:ks.length=n)(hN:n<=300)(af:∀x∈ks,x<4294967296)
 (ha:Row w w A n 1 (jZ .u32 ks))(U:bs.length+10*n<=5000000)(hW:Wr K w base g t rest bs v):
 Calls prog 225 #[.pointer (some ⟨g,0,none⟩), .slice A n c] w (MA K w base g t rest (bs++Er (Lens.CV ks 15)) (Lens.CV ks 15)):=by
 have C1:=Lens.fR w A n c ks 15 hn mz mz mz af ha;unfold Lens.IV at C1;have hE:=TW.Jz (ks:=ks) mz;have Y:=Lens.Pa hE mz;have i:=Lens.Nd hE;rw[hE,i,hn]at C1;rw[hn]at i;have ai:=hid U;have HW:=hid hW;generalize Lens.CV ks 15=ls at *;have HL:=hid i;have Q:=hid Y;have C1:=hid C1;clear hn af ha hE Y i U hW;go_enter func225,ntmps225;go_wp2_with fail;refine C1.out.mono ?_;rintro e w1 ⟨A1,c1,rfl,j,aa,E,M⟩;have z1:=E.size;have ae:=HW.out.stepK (L:=fun x=>K x∨w.heap.size<=x/\x<w1.heap.size) E (fun k h=>h);have y:=eM j M;have C2:=hid (Y8 (fun x=>K x∨w.heap.size<=x/\x<w1.heap.size) w1 g base t rest v bs A1 n c1 ls HL.out mz Q.out (fun h0 p hp=>by obtain⟨b,al,e,hb,_⟩:=y h0;rw[e]at hp;cases hp;exact .inr hb) j ai.out ae);have J:=hid y;have Z:=hid aa;have ah:=hid E;clear j M E ae y aa C1;go_wp2_with fail;refine C2.out.mono ?_;rintro e w2 ⟨rfl,v2,ac,G⟩;have z2:=G.size;have z:RowIn w2 w w1 A1 n 1 (jZ .u8 ls):=J.out.keep (fun p h1 h2=>World.cell?_of_block (G.block p.block (.inr ⟨h1,h2⟩)));have C3:=new_any w2 A1 n c1 ls HL.out Q.out Z.out.1 (z.row.mono z2);unfold Ta at C3;have C3:=hid C3;have ab:=hid ac;have aj:=hid G;clear ac G z C2 J Z;go_wp2_with fail;refine C3.out.mono ?_;rintro e w3 ⟨gc,rfl,hC,N⟩;have HC:=hid hC;have ag:=hid N;clear hC N C3;go_wp2_with fail;go_ret;refine⟨gc,w2.heap.size,v2,rfl,mz,HC.out,?_,?_⟩
 ·refine ab.out.stepK ag.out (fun k h=> ?_);rcases h with h|h
  ·exact .inl (.inl h)
  ·exact .inr h
 ·have ak:Kept K w w1:=Kept.of_below ah.out fun k h=>HW.out.kK k h;exact(ak.trans (Ob aj.out fun k h=> .inl h)).trans (Kept.of_below ag.out fun k h=>by have:=ab.out.kK k (.inl h);exact this)
end Huff
namespace Huff
open Go.RowKit Mem Canon Own
open Toks (Tk Pc oZ ED A0 NW)
theorem Mh(h:ls.getD s 0≠0):Fb ls (s:Int)≠0:=by unfold Fb;rw[Ab mz,Bw];exact h
def U7(K:Nat->Prop)(w:World)(base g:Nat)(t:TypeId)(rest:List Value)(bs:List Bool)(e:Ending)(w':World):Prop:=
 e= .returned (.tuple #[])/\∃v',Wr K w' base g t rest bs v'/\Kept K w w'
set_option maxHeartbeats 1000000 in
theorem kI(K:Nat->Prop)(w:World)(g base gs gf l1 B1 l2 B2:Nat)(ls lf:List Nat)(bs:List Bool)(v:Value)(tk:Tk)(z:0<=tk.lit/\tk.lit<=255)(hm:A0 tk.lit tk.len tk.dist=true)
 (ab:okB ls=true)(ag:Coder w l1 B1 gs ls)(ai:∀k,l1<=k->k<B1->K k)(N:okB lf=true)(an:Coder w l2 B2 gf lf)(av:∀k,l2<=k->k<B2->K k)
 (h1:ls.getD (oZ tk).sym.toNat 0≠0)(h2:tk.len≠0->lf.getD (oZ tk).dist.toNat 0≠0)(bj:bs.length+60<=5000000)
 (hW:Wr K w base g 299 [.pointer (some ⟨gs,0,none⟩), .pointer (some ⟨gf,0,none⟩)] bs v):
 Calls prog 226 #[.pointer (some ⟨g,0,none⟩),tk.val] w (U7 K w base g 299 [.pointer (some ⟨gs,0,none⟩), .pointer (some ⟨gf,0,none⟩)] (bs++TW.BK ls lf tk)):=by
 have C1:=fun w=>NW tk w z.1 z.2;have ar:ED tk=0:=by unfold ED;rw[Ae hm]
 have af:∀x,K x->x<w.heap.size:=hW.kK;rw[ar]at C1;by_cases h0:tk.len=0
 ·have hp:=TW.Vd z.1 h0 hm;have hb:TW.BK ls lf tk=word ls tk.lit.toNat:=by unfold TW.BK;rw[Ae h0,Ce,hp,Bw]
  rw[hp]at C1 h1;rw[hb];rw[Bw]at h1;have hS:tk.lit.toNat<256:=mz
  generalize tk.lit.toNat=S at *;rw[Toks.Pc.val_mk]at C1;obtain⟨t1,t2,t3⟩:=tk;rw[Toks.Tk.val_mk]at *;have C1:=hid C1;have HW:=hid hW;have Y:=hid ag;have U:=hid ai;have am:=hid ab;have H1:=hid (Mh h1);have Q:=hid af;have g1:=ic ((S:Int)<256)
  have g2:decide (S<256)=true:=by simpa using hS
  clear z hm ab ag ai N an av h1 h2 hW ar h0 hp hb af;go_enter func226,ntmps226;go_wp2_with fail;refine(C1.out _).mono ?_;rintro e w1 ⟨rfl,Z⟩;have z1:=Z.size;simp at z1;go_upto_region 2 with fail;have j:Below w w (w1.alloc (.cells #[S,ij,ij,ij] 276)):=qh
  have i:Blk (w1.alloc (.cells #[S,ij,ij,ij] 276)) w1 276 #[S,ij,ij,ij]:=Blk.made _ _ _;generalize w1.alloc (.cells #[S,ij,ij,ij] 276)=w2 at *;have z2:=i.lt;have J:=HW.out.stepK (L:=fun x=>K x∨w.heap.size<=x/\x<w2.heap.size) j (fun k h=>h);have ac:=Y.out.keep (w':=w2) (fun b h1 h2=>j.block b (Q.out b (U.out b h1 h2)));have C2:=hid (Na (fun x=>K x∨w.heap.size<=x/\x<w2.heap.size) w2.drew l1 B1 gs ls g base 299 [.pointer (some ⟨gs,0,none⟩), .pointer (some ⟨gf,0,none⟩)] v bs (S:Int) mz am.out ac.drew (fun k h1 h2=> .inl (U.out k h1 h2)) H1.out mz J.drew);rw[Bw]at C2;have d0:=J.blk.cell 2;have p0:=i.cell 0;simp at d0 p0;generalize w1.heap.size=pb at *;have KP:Hid (K pb∨w.heap.size<=pb/\pb<w2.heap.size):= .inr ⟨mz,z2⟩;have aa:=hid j;clear j i J ac Z C1 HW Y;go_region_held3 (fun wx=>wx.cell? ⟨g,2,none⟩=some (.pointer (some ⟨gs,0,none⟩))/\wx.cell? ⟨pb,0,none⟩=some (.int .i64 S)) (first|exact⟨d0,p0⟩|exact⟨k0,k1⟩) (first|(go_at_call 227;(with_reducible refine C2.out.mono ?_);rintro e w' ⟨rfl,v2,E,y⟩;have k0:w'.cell? ⟨g,2,none⟩=some (.pointer (some ⟨gs,0,none⟩)):=E.blk.cell 2;have k1:w'.cell? ⟨pb,0,none⟩=some (.int .i64 S):=(World.cell?_of_block (a:=⟨pb,0,none⟩) (y.block pb KP.out)).trans p0));have be:=hid E;have ae:=hid y;clear E y C2;go_wp2_with fail;refine bodyPost_end (BN rfl _ _ _) rfl ?_;exact⟨rfl,v2,be.out.weak (fun k h=> .inl h),(Kept.of_below aa.out Q.out).drew.trans (Ob ae.out (fun k h=> .inl h))⟩
 ·obtain⟨b,L,D,F,hp,bk,bh,hL,hF⟩:=TW.Oj h0 hm;have hb:TW.BK ls lf tk=word ls (257+b)++(msb L b b++(word lf D++msb F D D)):=by unfold TW.BK;rw[Ab h0,hp];simp only[Int.toNat_natCast,Nat.add_sub_cancel_left]
  replace h2:=h2 h0
  rw[hp]at C1 h1 h2;rw[hb,<-AJ,<-AJ,<-AJ];simp only[Int.toNat_natCast]at h1 h2;obtain⟨_,a9,_⟩:=ok_parts ab;obtain⟨_,ak,_⟩:=ok_parts N;have bf:(word ls (257+b)).length<=15:=by rw[Ez];exact TW.Lg a9 _
  have bm:(word lf D).length<=15:=by rw[Ez];exact TW.Lg ak _
  obtain⟨S,hS⟩:=ii (257+b);rw[<-hS]at C1 h1 bf;rw[<-hS];have x1:IntKind.i64.wrap ((S:Int)-257)=(b:Int):=oI
  have x2:IntKind.u64.wrap (L:Int)=(L:Int):=by have:2 ^ b<=2 ^ 8:=Cl mz mz;rw[Bv];omega
  have x3:IntKind.u64.wrap (F:Int)=(F:Int):=by have:2 ^ D<=2 ^ 12:=Cl mz mz;rw[Bv];omega
  rw[Toks.Pc.val_mk]at C1;obtain⟨t1,t2,t3⟩:=tk;rw[Toks.Tk.val_mk]at *;have C1:=hid C1;have HW:=hid hW;have Y:=hid ag;have U:=hid ai;have am:=hid ab;have bg:=hid an;have a4:=hid av;have bb:=hid N;have H1:=hid (Mh h1);have H2:=hid (Mh h2);have Q:=hid af;have HL:=hid hL;have HF:=hid hF;have g1:=ig ((S:Int)<256)
  have g2:=ig (S<256)
  have bl:S<=264:=mz
  clear z hm ab ag ai N an av h1 h2 hW ar h0 hp hb af hL hF hS a9 ak;go_enter func226,ntmps226;go_wp2_with fail;refine(C1.out _).mono ?_;rintro e w1 ⟨rfl,Z⟩;have z1:=Z.size;simp at z1;go_upto_region 2 with fail;have j:Below w w (w1.alloc (.cells #[S,L,D,F] 276)):=qh
  have i:Blk (w1.alloc (.cells #[S,L,D,F] 276)) w1 276 #[S,L,D,F]:=Blk.made _ _ _;generalize w1.alloc (.cells #[S,L,D,F] 276)=w2 at *;have z2:=i.lt;obtain⟨M,hM⟩:∃M:Nat->Prop,M=fun x=>K x∨w.heap.size<=x/\x<w2.heap.size:=⟨_,rfl⟩;have J:=HW.out.stepK (L:=M) j (fun k h=>by rw[hM]at h;exact h);have ac:Coder w2 l1 B1 gs ls:=Y.out.keep (fun b h1 h2=>j.block b (Q.out b (U.out b h1 h2)));have a1:Coder w2 l2 B2 gf lf:=bg.out.keep (fun b h1 h2=>j.block b (Q.out b (a4.out b h1 h2)));have aw:∀k,l1<=k->k<B1->M k:=fun k h1 h2=>by rw[hM];exact .inl (U.out k h1 h2)
  have au:∀k,l2<=k->k<B2->M k:=fun k h1 h2=>by rw[hM];exact .inl (a4.out k h1 h2)
  have a6:∀k,K k->M k:=fun k h=>by rw[hM];exact .inl h
  have C2:=hid (Na M w2.drew l1 B1 gs ls g base 299 [.pointer (some ⟨gs,0,none⟩), .pointer (some ⟨gf,0,none⟩)] v bs (S:Int) mz am.out ac.drew aw H1.out mz J.drew);rw[Bw]at C2;have C4:=fun wx vx h=>put_any M wx g base 299 [.pointer (some ⟨gs,0,none⟩), .pointer (some ⟨gf,0,none⟩)] vx (bs++word ls S) L b HL.out mz nz h;have C5:=fun wx vx hc h=>Na M wx l2 B2 gf lf g base 299 [.pointer (some ⟨gs,0,none⟩), .pointer (some ⟨gf,0,none⟩)] vx (bs++word ls S++msb L b b) (D:Int) mz bb.out hc au H2.out (by simp only[List.length_append,pZ];omega) h;have C6:=fun wx vx h=>put_any M wx g base 299 [.pointer (some ⟨gs,0,none⟩), .pointer (some ⟨gf,0,none⟩)] vx (bs++word ls S++msb L b b++word lf D) F D HF.out mz (by simp only[List.length_append,pZ];omega) h;rw[<-x1,<-x2]at C4;rw[<-x3]at C6;rw[Bw]at C5;have C4:=hid C4;have C5:=hid C5;have C6:=hid C6;have d0:=J.blk.cell 2;have p0:=i.cell 0;have p1:=i.cell 1;have p2:=i.cell 2;have p3:=i.cell 3;simp at d0 p0 p1 p2 p3;generalize w1.heap.size=pb at *;have KP:Hid (M pb):=by show M pb;rw[hM];exact .inr ⟨mz,z2⟩
  have aa:=hid j;have bi:=hid aw;have ba:=hid au;have ax:=hid a6;have a3:=hid a1;clear j i J ac Z C1 HW Y hM aw au a6 a1 x1 x2 x3;go_region_held3 (fun wx=>wx.cell? ⟨g,2,none⟩=some (.pointer (some ⟨gs,0,none⟩))/\wx.cell? ⟨pb,0,none⟩=some (.int .i64 S)) (first|exact⟨d0,p0⟩|exact⟨k0,k1⟩) (first|(go_at_call 227;(with_reducible refine C2.out.mono ?_);rintro e w' ⟨rfl,v2,E,y⟩;have k0:w'.cell? ⟨g,2,none⟩=some (.pointer (some ⟨gs,0,none⟩)):=E.blk.cell 2;have k1:w'.cell? ⟨pb,0,none⟩=some (.int .i64 S):=(World.cell?_of_block (a:=⟨pb,0,none⟩) (y.block pb KP.out)).trans p0));have q1:w'.cell? ⟨pb,1,none⟩=some (.int .i64 L):=(World.cell?_of_block (a:=⟨pb,1,none⟩) (y.block pb KP.out)).trans p1;have q2:w'.cell? ⟨pb,2,none⟩=some (.int .i64 D):=(World.cell?_of_block (a:=⟨pb,2,none⟩) (y.block pb KP.out)).trans p2;have q3:w'.cell? ⟨pb,3,none⟩=some (.int .i64 F):=(World.cell?_of_block (a:=⟨pb,3,none⟩) (y.block pb KP.out)).trans p3;have C4:=hid (C4.out w'.drew v2 E.drew);have a0:Hid (Coder w' l2 B2 gf lf):=a3.out.drew.kept y ba.out;have ae:Hid (Kept M w2 w'):=(Kept.refl M w2).drew.trans y;clear E y C2 a3 d0 p0 p1 p2 p3;go_upto_region 4 with fail;go_region_held3 (fun wx=>wx.cell? ⟨pb,0,none⟩=some (.int .i64 S)/\wx.cell? ⟨pb,1,none⟩=some (.int .i64 L)) (first|exact⟨k1,q1⟩|exact⟨m0,m1⟩) (first|(go_at_call 175;(with_reducible refine C4.out.mono ?_);rintro e w4 ⟨rfl,v4,aq,G⟩;have m0:w4.cell? ⟨pb,0,none⟩=some (.int .i64 S):=(World.cell?_of_block (a:=⟨pb,0,none⟩) (G.block pb KP.out)).trans k1;have m1:w4.cell? ⟨pb,1,none⟩=some (.int .i64 L):=(World.cell?_of_block (a:=⟨pb,1,none⟩) (G.block pb KP.out)).trans q1));have r2:w4.cell? ⟨pb,2,none⟩=some (.int .i64 D):=(World.cell?_of_block (a:=⟨pb,2,none⟩) (G.block pb KP.out)).trans q2;have r3:w4.cell? ⟨pb,3,none⟩=some (.int .i64 F):=(World.cell?_of_block (a:=⟨pb,3,none⟩) (G.block pb KP.out)).trans q3;have r1:w4.cell? ⟨g,3,none⟩=some (.pointer (some ⟨gf,0,none⟩)):=aq.blk.cell 3;have C5:=hid (C5.out w4.drew v4 (a0.out.drew.kept G ba.out).drew aq.drew);have ay:Hid (Kept M w2 w4):=ae.out.drew.trans G;clear aq G C4 a0 ae k0 k1 q1 q2 q3 m0 m1;go_upto_region 5 with fail;go_region_held3 (fun wx=>wx.cell? ⟨g,3,none⟩=some (.pointer (some ⟨gf,0,none⟩))/\wx.cell? ⟨pb,2,none⟩=some (.int .i64 D)) (first|exact⟨r1,r2⟩|exact⟨m0,m1⟩) (first|(go_at_call 227;(with_reducible refine C5.out.mono ?_);rintro e w5 ⟨rfl,v5,al,ah⟩;have m0:w5.cell? ⟨g,3,none⟩=some (.pointer (some ⟨gf,0,none⟩)):=al.blk.cell 3;have m1:w5.cell? ⟨pb,2,none⟩=some (.int .i64 D):=(World.cell?_of_block (a:=⟨pb,2,none⟩) (ah.block pb KP.out)).trans r2));have n3:w5.cell? ⟨pb,3,none⟩=some (.int .i64 F):=(World.cell?_of_block (a:=⟨pb,3,none⟩) (ah.block pb KP.out)).trans r3;have C6:=hid (C6.out w5.drew v5 al.drew);have a5:Hid (Kept M w2 w5):=ay.out.drew.trans ah;clear al ah C5 ay r1 r2 r3 m0;go_upto_region 6 with fail;go_region_held3 (fun wx=>wx.cell? ⟨pb,2,none⟩=some (.int .i64 D)/\wx.cell? ⟨pb,3,none⟩=some (.int .i64 F)) (first|exact⟨m1,n3⟩|exact⟨s0,s1⟩) (first|(go_at_call 175;(with_reducible refine C6.out.mono ?_);rintro e w6 ⟨rfl,v6,az,aj⟩;have s0:w6.cell? ⟨pb,2,none⟩=some (.int .i64 D):=(World.cell?_of_block (a:=⟨pb,2,none⟩) (aj.block pb KP.out)).trans m1;have s1:w6.cell? ⟨pb,3,none⟩=some (.int .i64 F):=(World.cell?_of_block (a:=⟨pb,3,none⟩) (aj.block pb KP.out)).trans n3));have bc:=hid az;have bd:Hid (Kept M w2 w6):=a5.out.drew.trans aj;clear az aj C6 a5 m1 n3 s0 s1;go_wp2_with fail;refine bodyPost_end (BN rfl _ _ _) rfl ?_;exact⟨rfl,v6,bc.out.weak ax.out,(Kept.of_below aa.out Q.out).trans (Ob bd.out ax.out)⟩
end Huff
end Go.Proofs.YtfgdoknipbpfhaaGreatDoor
