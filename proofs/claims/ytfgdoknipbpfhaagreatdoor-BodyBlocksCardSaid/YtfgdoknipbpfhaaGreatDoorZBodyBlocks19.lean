/- Plain: the bits that -/
import Derived.Test.YtfgdoknipbpfhaaGreatDoorZBodyBlocks18
import Derived.Test.YtfgdoknipbpfhaaGreatDoorZBodyBlocks16
import Derived.Test.YtfgdoknipbpfhaaGreatDoorZBodyBlocks12
namespace Go.Proofs.YtfgdoknipbpfhaaGreatDoor
open Go.Proofs.Tryz
open Go.Lib (hid)
set_option maxRecDepth 100000
variable{ks lf ls:List Nat}{base g s:Nat}{w:World}{t:TypeId}
namespace TW
open Canon Huff Lens
open Toks (Tk Pc oZ Eu AW bump CA C7 Dc lg pw Within)
theorem Ju(hn:ks.length<=300):D9 ks 15=0:=by
 unfold D9;rw[Aa mw,Aa];have h:=Oj (kOf ks) ks.length;show ¬2 ^ (15:Int).toNat<(wZ (kOf ks) ks.length).length;have:(2:Nat) ^ (15:Int).toNat=32768:=ip
 omega
theorem OH(hn:ks.length<=300)(hs:s<ks.length)(h0:ks.getD s 0≠0):(CQ ks 15).getD s 0≠0:=by have hE:=Ju hn;obtain⟨h,L,hL,h1,h2,h3,e⟩:=ok_parts hE;rw[e,i6 hs];have hm:s∈wZ (kOf ks) ks.length:=JO.2 ⟨hs,h0⟩;have:=(J8 h1 h3 hm).1;omega
theorem PF(l:List Int)(i j:Nat):l.getD j 0<=(bump l i).getD j 0:=by
 unfold bump;simp only[List.getD_eq_getElem?_getD,List.getElem?_set];split
 ·rename_i h;subst h;split
  ·simp;omega
  ·rename_i h2;rw[Ff mw];simp
 ·omega
theorem Pw{l:List Int}{i:Nat}(h:i<l.length):(bump l i).getD i 0=l.getD i 0+1:=by unfold bump;simp only[List.getD_eq_getElem?_getD,List.getElem?_set];rw[Ab trivial,Ab h];rfl
theorem UB(st:List Int×List Int)(t:Tk)(j:Nat):st.1.getD j 0<=(CA st t).1.getD j 0/\st.2.getD j 0<=(CA st t).2.getD j 0:=by
 unfold CA;refine⟨PF _ _ _,?_⟩;simp only;split
 ·omega
 ·exact PF _ _ _
theorem Uo(ts:List Tk):∀ (st:List Int×List Int) (j:Nat),st.1.getD j 0<=(ts.foldl CA st).1.getD j 0/\st.2.getD j 0<=(ts.foldl CA st).2.getD j 0:=by
 induction ts with
 |nil=>intro st j;exact⟨oK,oK⟩
 |cons t ts ih=>intro st j;have h:=ih (CA st t) j;have h2:=UB st t j;rw[List.foldl_cons];exact⟨mw,mw⟩
theorem Pq{t:Tk}:∀ (ts:List Tk) (st:List Int×List Int),t∈ts->
 ((oZ t).sym.toNat<st.1.length->st.1.getD (oZ t).sym.toNat 0+1<=(ts.foldl CA st).1.getD (oZ t).sym.toNat 0)/\
 (t.len≠0->(oZ t).dist.toNat<st.2.length->st.2.getD (oZ t).dist.toNat 0+1<=(ts.foldl CA st).2.getD (oZ t).dist.toNat 0)
 | [],_,h=>by cases h
 |x :: ts,st,h=>by
  rw[List.foldl_cons];have hl:=Toks.Rt st x;have hs:=UB st x;rcases AM.1 h with rfl|h
  ·refine⟨fun hS=> ?_,fun h0 hD=> ?_⟩
   ·have h1:=(Uo ts (CA st t) (oZ t).sym.toNat).1;have h2:(CA st t).1.getD (oZ t).sym.toNat 0=st.1.getD (oZ t).sym.toNat 0+1:=Pw hS;omega
   ·have h1:=(Uo ts (CA st t) (oZ t).dist.toNat).2;have h2:(CA st t).2.getD (oZ t).dist.toNat 0=st.2.getD (oZ t).dist.toNat 0+1:=(by unfold CA;simp only;rw[Aa h0];exact Pw hD);omega
  ·have ih:=Pq ts (CA st x) h;refine⟨fun hS=> ?_,fun h0 hD=> ?_⟩
   ·have h1:=ih.1 (by rw[hl.1];exact hS);have h2:=(hs (oZ t).sym.toNat).1;omega
   ·have h1:=ih.2 h0 (by rw[hl.2];exact hD);have h2:=(hs (oZ t).dist.toNat).2;omega
theorem OD{t:Tk}(hl:t.len≠0)(hm:AW t.lit t.len t.dist=true):
 ∃b L D F:Nat,oZ t=⟨((257+b:Nat):Int),L,D,F⟩/\b<8/\D<12/\L<2 ^ b/\F<2 ^ D:=by
 have hb:t.lit=0/\3<=t.len/\t.len<=257/\1<=t.dist/\t.dist<=4095:=by unfold AW at hm;rw[Aa hl]at hm;exact of_decide_eq_true hm
 have a1:=Toks.Is (t.len-2);have a2:=Toks.IM (t.len-2) 8 mw mw (by rw[Toks.pw_8];omega);have a3:=Toks.KF (t.len-2) mw;have a4:=Toks.Mk (t.len-2) mw;have b1:=Toks.Is t.dist;have b2:=Toks.IM t.dist 12 mw mw (by rw[Toks.OW];omega);have b3:=Toks.KF t.dist mw;have b4:=Toks.Mk t.dist mw;refine⟨(lg (t.len-2)).toNat,(t.len-2-pw (lg (t.len-2))).toNat,(lg t.dist).toNat,(t.dist-pw (lg t.dist)).toNat,?_,mw,mw,?_,?_⟩
 ·unfold oZ;rw[Ab hm,Aa hl];congr 1<;>omega
 ·have:pw (lg (t.len-2))=((2 ^ (lg (t.len-2)).toNat:Nat):Int):=rfl;omega
 ·have:pw (lg t.dist)=((2 ^ (lg t.dist).toNat:Nat):Int):=rfl;omega
theorem QH{t:Tk}(h0:0<=t.lit)(hl:t.len=0)(hm:AW t.lit t.len t.dist=true):oZ t=⟨((t.lit.toNat:Nat):Int),0,0,0⟩:=by unfold oZ;rw[Ab hm,Ab hl,Int.toNat_of_nonneg h0]
def BH(ls lf:List Nat)(t:Tk):List Bool:=
 word ls (oZ t).sym.toNat++if t.len=0 then []else
  msb (oZ t).len.toNat ((oZ t).sym.toNat-257) ((oZ t).sym.toNat-257)++(word lf (oZ t).dist.toNat++msb (oZ t).far.toNat (oZ t).dist.toNat (oZ t).dist.toNat)
def Hr(l:List Int):List Nat:=l.map Int.toNat
theorem Mv(l:List Int):(Hr l).length=l.length:=by simp[Hr]
theorem Mu(l:List Int)(i:Nat):(Hr l).getD i 0=(l.getD i 0).toNat:=by unfold Hr;rw[Am,Am,BG];cases l[i]? <;>rfl
def ksS(ts:List Tk):List Nat:=Hr (Toks.symsOf ts)
def ksF(ts:List Tk):List Nat:=Hr (Toks.MG ts)
theorem GX(ts:List Tk):(ksS ts).length=265:=by unfold ksS Toks.symsOf;rw[Mv,Toks.Ph,(Toks.Kv ts).1]
theorem IQ(ts:List Tk):(ksF ts).length=12:=by unfold ksF Toks.MG;rw[Mv,(Toks.Kv ts).2]
def lsS(ts:List Tk):List Nat:=CQ (ksS ts) 15
def lsF(ts:List Tk):List Nat:=CQ (ksF ts) 15
theorem Qg(ts:List Tk):(lsS ts).length=265:=by unfold lsS;rw[Lp (Ju ng),GX]
theorem PY(ts:List Tk):(lsF ts).length=12:=by unfold lsF;rw[Lp (Ju (by rw[IQ];omega)),IQ]
theorem O2(ts:List Tk):okB (lsS ts)=true:=PR (Ju ng) ng
theorem OY(ts:List Tk):okB (lsF ts)=true:=PR (Ju (by rw[IQ];omega)) (by rw[IQ];omega)
theorem Py{ts:List Tk}{t:Tk}(h:t∈ts)(hs:(oZ t).sym.toNat<265):(lsS ts).getD (oZ t).sym.toNat 0≠0:=by
 have h1:=(Pq ts (List.replicate 265 0,List.replicate 12 0) h).1 (by show _<(List.replicate 265 (0:Int)).length;rw[Di];exact hs);have h2:=PF (C7 ts).1 256 (oZ t).sym.toNat;refine OH ng (by rw[GX];exact hs) ?_;unfold ksS;rw[Mu];have h3:(List.replicate 265 (0:Int)).getD (oZ t).sym.toNat 0=0:=by simp only[List.getD_eq_getElem?_getD,List.getElem?_replicate];split<;>rfl
 change _<=(C7 ts).1.getD _ 0 at h1
 simp only[h3]at h1;show(Toks.bump (C7 ts).1 256 |>.getD _ 0).toNat≠0;omega
theorem Ua(ts:List Tk):(lsS ts).getD 256 0≠0:=by have h2:(bump (C7 ts).1 256).getD 256 0=(C7 ts).1.getD 256 0+1:=Pw (by rw[(Toks.Kv ts).1];omega);have h1:=(Toks.MF ts).1 256;refine OH ng ng ?_;unfold ksS;rw[Mu];show(Toks.bump (C7 ts).1 256 |>.getD _ 0).toNat≠0;omega
theorem Ps{ts:List Tk}{t:Tk}(h:t∈ts)(h0:t.len≠0)(hs:(oZ t).dist.toNat<12):(lsF ts).getD (oZ t).dist.toNat 0≠0:=by
 have h1:=(Pq ts (List.replicate 265 0,List.replicate 12 0) h).2 h0 (by show _<(List.replicate 12 (0:Int)).length;rw[Di];exact hs);refine OH (by rw[IQ];omega) (by rw[IQ];exact hs) ?_;unfold ksF;rw[Mu];have h3:(List.replicate 12 (0:Int)).getD (oZ t).dist.toNat 0=0:=by simp only[List.getD_eq_getElem?_getD,List.getElem?_replicate];split<;>rfl
 change _<=(C7 ts).2.getD _ 0 at h1
 simp only[h3]at h1;show((C7 ts).2.getD _ 0).toNat≠0;omega
def Fc(ts:List Tk):List Bool:=DP (lsS ts)++DP (lsF ts)++(ts.flatMap (BH (lsS ts) (lsF ts))++word (lsS ts) 256)
def Ih(ts:List Tk):Int:=if 32768<ts.length then 6 else if Dc ts=true then 0 else 7
def GC(ts:List Tk):List Nat:=if Ih ts=0 then bytesOf (Fc ts)else []
theorem wrGo_length(ls:List Nat):∀f i,(CW ls f i).length<=10*(ls.length-i)
 |0,i=>by simp[CW]
 |f+1,i=>by
  unfold CW;by_cases h:i<ls.length
  ·rw[Ab h];by_cases h0:ls.getD i 0=0
   ·have hx:ls[i]? =some 0:=(by rw[Am,Az h]at h0;rw[Az h];exact Aw some h0);have r1:1<=BD ls i 64:=(by have:=Kx hx 63;show 1<=BD ls i (63+1);omega);have rf:=MJ ls 64 i mw;have ih:=wrGo_length ls f (i+BD ls i 64);rw[Ab h0,Ae,Ae,pZ,pZ];omega
   ·have ih:=wrGo_length ls f (i+1);rw[Aa h0,Ae,pZ];omega
  ·rw[Aa h];simp
theorem Rg(ls:List Nat):(DP ls).length<=10*ls.length:=wrGo_length ls ls.length 0
theorem Li(h:∀x∈ls,x<=15)(s:Nat):ls.getD s 0<=15:=by
 rw[Am];cases hx:ls[s]? with
 |none=>simp
 |some x=>simpa using h x (Be hx)
theorem Ys(h:∀x∈ls,x<=15)(h':∀x∈lf,x<=15){t:Tk}(hm:AW t.lit t.len t.dist=true):(BH ls lf t).length<=48:=by
 unfold BH;have h1:=Li h (oZ t).sym.toNat;have h2:=Li h' (oZ t).dist.toNat;by_cases h0:t.len=0
 ·rw[Ab h0,BZ,Ep];omega
 ·obtain⟨b,L,D,F,e,hb,hD,hL,hF⟩:=OD h0 hm;rw[Aa h0,Ae,Ae,Ae,Ep,Ep,pZ,pZ];rw[e]at h1 h2 ⊢;simp only[Int.toNat_natCast]at h1 h2 ⊢;omega
theorem OP{ls lf:List Nat}(h:∀x∈ls,x<=15)(h':∀x∈lf,x<=15):∀ {ts:List Tk},Dc ts=true->(ts.flatMap (BH ls lf)).length<=48*ts.length
 | [],_=>oK
 |t :: ts,hm=>by unfold Dc at hm;rw[List.all_cons,BV]at hm;have h1:=Ys h h' hm.1;have h2:=OP h h' (ts:=ts) hm.2;rw[Cm,Ae,AD];omega
theorem jM{ts:List Tk}{k:Nat}(h:k<ts.length):(ts.take (k+1)).flatMap (BH ls lf)=(ts.take k).flatMap (BH ls lf)++BH ls lf ts[k]:=by rw[List.take_succ_eq_append_getElem h,Il];simp
end TW
namespace Huff
open Go.RowKit Mem Canon Own
theorem Wr.stepK{K L:Nat->Prop}{w':World}{rest:List Value}{bs:List Bool}{v:Value}(h:Wr K w base g t rest bs v)(hb:Below w w w')(hL:∀k,L k->K k∨w.heap.size<=k/\k<w'.heap.size):Wr L w' base g t rest bs v:=by
 have hv:∀x,v.ownBlock=some x->x<w.heap.size:=fun x hx=>(Aj h.own x hx).2;refine⟨h.blk.step hb,eZ h.own (fun x hx=>hb.block x (hv x hx)),h.ne,AK h.base hb.size,fun e=> ?_,fun x hx e=> ?_,fun k e=> ?_⟩
 ·rcases hL _ e with e|e
  ·exact h.kg e
  ·have:=h.blk.lt;omega
 ·rcases hL _ e with e|e
  ·exact h.kv x hx e
  ·have:=hv x hx;omega
 ·rcases hL _ e with e|e
  ·have:=h.kK k e;have:=hb.size;omega
  ·exact e.2
theorem Wr.weak{K L:Nat->Prop}{rest:List Value}{bs:List Bool}{v:Value}(h:Wr K w base g t rest bs v)(hl:∀k,L k->K k):Wr L w base g t rest bs v:=
 ⟨h.blk,h.own,h.ne,h.base,fun e=>h.kg (hl _ e),fun x hx e=>h.kv x hx (hl _ e),fun k e=>h.kK k (hl k e)⟩
theorem Oy{K L:Nat->Prop}{a:World}(h:Kept K a w)(hl:∀k,L k->K k):Kept L a w:=⟨h.os,h.tape,h.output,h.size,fun k e=>h.block k (hl k e)⟩
theorem aO{lo B n:Nat}{A:Option Addr}{f:Nat->Nat->Value}(h:Row w B A n s f)(i:0<n->∀p,A=some p->lo<=p.block):RowIn w lo B A n s f:=fun hn=>by obtain⟨b,j,e,hb,hc⟩:=h hn;exact⟨b,j,e,⟨i hn _ e,hb⟩,hc⟩
def Nj(K:Nat->Prop)(w:World)(base g:Nat)(t:TypeId)(rest:List Value)(bs:List Bool)(ls:List Nat)(e:Ending)(w':World):Prop:=
 ∃gc lo v',e= .returned (.pointer (some ⟨gc,0,none⟩))/\w.heap.size<=lo/\Coder w' lo w' gc ls/\Wr (fun x=>K x∨lo<=x/\x<w'.heap.size) w' base g t rest bs v'/\Kept K w w'
theorem Vj(K:Nat->Prop)(w:World)(g base:Nat)(t:TypeId)(rest:List Value)(v:Value)(bs:List Bool)(A:Option Addr)(n c:Nat)(ks:List Nat)(hn:ks.length=n)(hN:n<=300)(Z:∀x∈ks,x<4294967296)
 (ha:Row w w A n 1 (jZ .u32 ks))(aa:bs.length+10*n<=5000000)(hW:Wr K w base g t rest bs v):
 Calls prog 225 #[.pointer (some ⟨g,0,none⟩), .slice A n c] w (Nj K w base g t rest (bs++DP (Lens.CQ ks 15)) (Lens.CQ ks 15)):=by
 have C1:=Lens.bK w A n c ks 15 hn mw mw mw Z ha;unfold Lens.Iq at C1;have hE:=TW.Ju (ks:=ks) mw;have af:=Lens.PR hE mw;have i:=Lens.Lp hE;rw[hE,i,hn]at C1;rw[hn]at i;have ak:=hid aa;have HW:=hid hW;generalize Lens.CQ ks 15=ls at *;have HL:=hid i;have N:=hid af;have C1:=hid C1;clear hn Z ha hE af i aa hW;go_enter func225,ntmps225;go_wp2_with fail;refine C1.out.mono ?_;rintro e w1 ⟨A1,c1,rfl,j,ac,G,M⟩;have z1:=G.size;have Q:=HW.out.stepK (L:=fun x=>K x∨w.heap.size<=x/\x<w1.heap.size) G (fun k h=>h);have z:=aO j M;have C2:=hid (W4 (fun x=>K x∨w.heap.size<=x/\x<w1.heap.size) w1 g base t rest v bs A1 n c1 ls HL.out mw N.out (fun h0 p hp=>by obtain⟨b,al,e,hb,_⟩:=z h0;rw[e]at hp;cases hp;exact .inr hb) j ak.out Q);have J:=hid z;have ae:=hid ac;have ah:=hid G;clear j M G Q z ac C1;go_wp2_with fail;refine C2.out.mono ?_;rintro e w2 ⟨rfl,v2,Y,E⟩;have z2:=E.size;have y:RowIn w2 w w1 A1 n 1 (jZ .u8 ls):=J.out.keep (fun p h1 h2=>World.cell?_of_block (E.block p.block (.inr ⟨h1,h2⟩)));have C3:=new_any w2 A1 n c1 ls HL.out N.out ae.out.1 (y.row.mono z2);unfold QO at C3;have C3:=hid C3;have ab:=hid Y;have ai:=hid E;clear Y E y C2 J ae;go_wp2_with fail;refine C3.out.mono ?_;rintro e w3 ⟨gc,rfl,hC,ag⟩;have HC:=hid hC;have U:=hid ag;clear hC ag C3;go_wp2_with fail;go_ret;refine⟨gc,w2.heap.size,v2,rfl,mw,HC.out,?_,?_⟩
 ·refine ab.out.stepK U.out (fun k h=> ?_);rcases h with h|h
  ·exact .inl (.inl h)
  ·exact .inr h
 ·have aj:Kept K w w1:=Kept.of_below ah.out fun k h=>HW.out.kK k h;exact(aj.trans (Oy ai.out fun k h=> .inl h)).trans (Kept.of_below U.out fun k h=>by have:=ab.out.kK k (.inl h);exact this)
end Huff
namespace Huff
open Go.RowKit Mem Canon Own
open Toks (Tk Pc oZ Eu AW N9)
theorem Mp(h:ls.getD s 0≠0):EU ls (s:Int)≠0:=by unfold EU;rw[Aa mw,Br];exact h
def Uz(K:Nat->Prop)(w:World)(base g:Nat)(t:TypeId)(rest:List Value)(bs:List Bool)(e:Ending)(w':World):Prop:=
 e= .returned (.tuple #[])/\∃v',Wr K w' base g t rest bs v'/\Kept K w w'
set_option maxHeartbeats 1000000 in
theorem eJ(K:Nat->Prop)(w:World)(g base gs gf l1 B1 l2 B2:Nat)(ls lf:List Nat)(bs:List Bool)(v:Value)(tk:Tk)(z:0<=tk.lit/\tk.lit<=255)(hm:AW tk.lit tk.len tk.dist=true)
 (Z:okB ls=true)(aj:Coder w l1 B1 gs ls)(af:∀k,l1<=k->k<B1->K k)(N:okB lf=true)(aw:Coder w l2 B2 gf lf)(an:∀k,l2<=k->k<B2->K k)
 (h1:ls.getD (oZ tk).sym.toNat 0≠0)(h2:tk.len≠0->lf.getD (oZ tk).dist.toNat 0≠0)(bl:bs.length+60<=5000000)
 (hW:Wr K w base g 299 [.pointer (some ⟨gs,0,none⟩), .pointer (some ⟨gf,0,none⟩)] bs v):
 Calls prog 226 #[.pointer (some ⟨g,0,none⟩),tk.val] w (Uz K w base g 299 [.pointer (some ⟨gs,0,none⟩), .pointer (some ⟨gf,0,none⟩)] (bs++TW.BH ls lf tk)):=by
 have C1:=fun w=>N9 tk w z.1 z.2;have aq:Eu tk=0:=by unfold Eu;rw[Ab hm]
 have ah:∀x,K x->x<w.heap.size:=hW.kK;rw[aq]at C1;by_cases h0:tk.len=0
 ·have hp:=TW.QH z.1 h0 hm;have hb:TW.BH ls lf tk=word ls tk.lit.toNat:=by unfold TW.BH;rw[Ab h0,BZ,hp,Br]
  rw[hp]at C1 h1;rw[hb];rw[Br]at h1;have hS:tk.lit.toNat<256:=mw
  generalize tk.lit.toNat=S at *;rw[Toks.Pc.val_mk]at C1;obtain⟨t1,t2,t3⟩:=tk;rw[Toks.Tk.val_mk]at *;have C1:=hid C1;have HW:=hid hW;have ab:=hid aj;have aa:=hid af;have al:=hid Z;have H1:=hid (Mp h1);have Q:=hid ah;have g1:=ic ((S:Int)<256)
  have g2:decide (S<256)=true:=by simpa using hS
  clear z hm Z aj af N aw an h1 h2 hW aq h0 hp hb ah;go_enter func226,ntmps226;go_wp2_with fail;refine(C1.out _).mono ?_;rintro e w1 ⟨rfl,ac⟩;have z1:=ac.size;simp at z1;go_upto_region 2 with fail;have i:Below w w (w1.alloc (.cells #[S,ij,ij,ij] 276)):=pn
  have j:Blk (w1.alloc (.cells #[S,ij,ij,ij] 276)) w1 276 #[S,ij,ij,ij]:=Blk.made _ _ _;generalize w1.alloc (.cells #[S,ij,ij,ij] 276)=w2 at *;have z2:=j.lt;have J:=HW.out.stepK (L:=fun x=>K x∨w.heap.size<=x/\x<w2.heap.size) i (fun k h=>h);have U:=ab.out.keep (w':=w2) (fun b h1 h2=>i.block b (Q.out b (aa.out b h1 h2)));have C2:=hid (Ng (fun x=>K x∨w.heap.size<=x/\x<w2.heap.size) w2.drew l1 B1 gs ls g base 299 [.pointer (some ⟨gs,0,none⟩), .pointer (some ⟨gf,0,none⟩)] v bs (S:Int) mw al.out U.drew (fun k h1 h2=> .inl (aa.out k h1 h2)) H1.out mw J.drew);rw[Br]at C2;have d0:=J.blk.cell 2;have p0:=j.cell 0;simp at d0 p0;generalize w1.heap.size=pb at *;have KP:Hid (K pb∨w.heap.size<=pb/\pb<w2.heap.size):= .inr ⟨mw,z2⟩;have Y:=hid i;clear i j J U ac C1 HW ab;go_region_held3 (fun wx=>wx.cell? ⟨g,2,none⟩=some (.pointer (some ⟨gs,0,none⟩))/\wx.cell? ⟨pb,0,none⟩=some (.int .i64 S)) (first|exact⟨d0,p0⟩|exact⟨k0,k1⟩) (first|(go_at_call 227;(with_reducible refine C2.out.mono ?_);rintro e w' ⟨rfl,v2,E,y⟩;have k0:w'.cell? ⟨g,2,none⟩=some (.pointer (some ⟨gs,0,none⟩)):=E.blk.cell 2;have k1:w'.cell? ⟨pb,0,none⟩=some (.int .i64 S):=(World.cell?_of_block (a:=⟨pb,0,none⟩) (y.block pb KP.out)).trans p0));have be:=hid E;have ag:=hid y;clear E y C2;go_wp2_with fail;refine bodyPost_end (BJ rfl _ _ _) rfl ?_;exact⟨rfl,v2,be.out.weak (fun k h=> .inl h),(Kept.of_below Y.out Q.out).drew.trans (Oy ag.out (fun k h=> .inl h))⟩
 ·obtain⟨b,L,D,F,hp,bm,bh,hL,hF⟩:=TW.OD h0 hm;have hb:TW.BH ls lf tk=word ls (257+b)++(msb L b b++(word lf D++msb F D D)):=by unfold TW.BH;rw[Aa h0,hp];simp only[Int.toNat_natCast,Nat.add_sub_cancel_left]
  replace h2:=h2 h0
  rw[hp]at C1 h1 h2;rw[hb,<-AE,<-AE,<-AE];simp only[Int.toNat_natCast]at h1 h2;obtain⟨_,a1,_⟩:=ok_parts Z;obtain⟨_,ak,_⟩:=ok_parts N;have bc:(word ls (257+b)).length<=15:=by rw[Ep];exact TW.Li a1 _
  have bj:(word lf D).length<=15:=by rw[Ep];exact TW.Li ak _
  obtain⟨S,hS⟩:=ii (257+b);rw[<-hS]at C1 h1 bc;rw[<-hS];have x1:IntKind.i64.wrap ((S:Int)-257)=(b:Int):=nB
  have x2:IntKind.u64.wrap (L:Int)=(L:Int):=by have:2 ^ b<=2 ^ 8:=Cc mw mw;rw[Bq];omega
  have x3:IntKind.u64.wrap (F:Int)=(F:Int):=by have:2 ^ D<=2 ^ 12:=Cc mw mw;rw[Bq];omega
  rw[Toks.Pc.val_mk]at C1;obtain⟨t1,t2,t3⟩:=tk;rw[Toks.Tk.val_mk]at *;have C1:=hid C1;have HW:=hid hW;have ab:=hid aj;have aa:=hid af;have al:=hid Z;have bf:=hid aw;have a3:=hid an;have ax:=hid N;have H1:=hid (Mp h1);have H2:=hid (Mp h2);have Q:=hid ah;have HL:=hid hL;have HF:=hid hF;have g1:=ig ((S:Int)<256)
  have g2:=ig (S<256)
  have bk:S<=264:=mw
  clear z hm Z aj af N aw an h1 h2 hW aq h0 hp hb ah hL hF hS a1 ak;go_enter func226,ntmps226;go_wp2_with fail;refine(C1.out _).mono ?_;rintro e w1 ⟨rfl,ac⟩;have z1:=ac.size;simp at z1;go_upto_region 2 with fail;have i:Below w w (w1.alloc (.cells #[S,L,D,F] 276)):=pn
  have j:Blk (w1.alloc (.cells #[S,L,D,F] 276)) w1 276 #[S,L,D,F]:=Blk.made _ _ _;generalize w1.alloc (.cells #[S,L,D,F] 276)=w2 at *;have z2:=j.lt;obtain⟨M,hM⟩:∃M:Nat->Prop,M=fun x=>K x∨w.heap.size<=x/\x<w2.heap.size:=⟨_,rfl⟩;have J:=HW.out.stepK (L:=M) i (fun k h=>by rw[hM]at h;exact h);have U:Coder w2 l1 B1 gs ls:=ab.out.keep (fun b h1 h2=>i.block b (Q.out b (aa.out b h1 h2)));have az:Coder w2 l2 B2 gf lf:=bf.out.keep (fun b h1 h2=>i.block b (Q.out b (a3.out b h1 h2)));have av:∀k,l1<=k->k<B1->M k:=fun k h1 h2=>by rw[hM];exact .inl (aa.out k h1 h2)
  have au:∀k,l2<=k->k<B2->M k:=fun k h1 h2=>by rw[hM];exact .inl (a3.out k h1 h2)
  have a0:∀k,K k->M k:=fun k h=>by rw[hM];exact .inl h
  have C2:=hid (Ng M w2.drew l1 B1 gs ls g base 299 [.pointer (some ⟨gs,0,none⟩), .pointer (some ⟨gf,0,none⟩)] v bs (S:Int) mw al.out U.drew av H1.out mw J.drew);rw[Br]at C2;have C4:=fun wx vx h=>put_any M wx g base 299 [.pointer (some ⟨gs,0,none⟩), .pointer (some ⟨gf,0,none⟩)] vx (bs++word ls S) L b HL.out mw mW h;have C5:=fun wx vx hc h=>Ng M wx l2 B2 gf lf g base 299 [.pointer (some ⟨gs,0,none⟩), .pointer (some ⟨gf,0,none⟩)] vx (bs++word ls S++msb L b b) (D:Int) mw ax.out hc au H2.out (by simp only[List.length_append,pZ];omega) h;have C6:=fun wx vx h=>put_any M wx g base 299 [.pointer (some ⟨gs,0,none⟩), .pointer (some ⟨gf,0,none⟩)] vx (bs++word ls S++msb L b b++word lf D) F D HF.out mw (by simp only[List.length_append,pZ];omega) h;rw[<-x1,<-x2]at C4;rw[<-x3]at C6;rw[Br]at C5;have C4:=hid C4;have C5:=hid C5;have C6:=hid C6;have d0:=J.blk.cell 2;have p0:=j.cell 0;have p1:=j.cell 1;have p2:=j.cell 2;have p3:=j.cell 3;simp at d0 p0 p1 p2 p3;generalize w1.heap.size=pb at *;have KP:Hid (M pb):=by show M pb;rw[hM];exact .inr ⟨mw,z2⟩
  have Y:=hid i;have bi:=hid av;have a6:=hid au;have ba:=hid a0;have a9:=hid az;clear i j J U ac C1 HW ab hM av au a0 az x1 x2 x3;go_region_held3 (fun wx=>wx.cell? ⟨g,2,none⟩=some (.pointer (some ⟨gs,0,none⟩))/\wx.cell? ⟨pb,0,none⟩=some (.int .i64 S)) (first|exact⟨d0,p0⟩|exact⟨k0,k1⟩) (first|(go_at_call 227;(with_reducible refine C2.out.mono ?_);rintro e w' ⟨rfl,v2,E,y⟩;have k0:w'.cell? ⟨g,2,none⟩=some (.pointer (some ⟨gs,0,none⟩)):=E.blk.cell 2;have k1:w'.cell? ⟨pb,0,none⟩=some (.int .i64 S):=(World.cell?_of_block (a:=⟨pb,0,none⟩) (y.block pb KP.out)).trans p0));have q1:w'.cell? ⟨pb,1,none⟩=some (.int .i64 L):=(World.cell?_of_block (a:=⟨pb,1,none⟩) (y.block pb KP.out)).trans p1;have q2:w'.cell? ⟨pb,2,none⟩=some (.int .i64 D):=(World.cell?_of_block (a:=⟨pb,2,none⟩) (y.block pb KP.out)).trans p2;have q3:w'.cell? ⟨pb,3,none⟩=some (.int .i64 F):=(World.cell?_of_block (a:=⟨pb,3,none⟩) (y.block pb KP.out)).trans p3;have C4:=hid (C4.out w'.drew v2 E.drew);have a5:Hid (Coder w' l2 B2 gf lf):=a9.out.drew.kept y a6.out;have ag:Hid (Kept M w2 w'):=(Kept.refl M w2).drew.trans y;clear E y C2 a9 d0 p0 p1 p2 p3;go_upto_region 4 with fail;go_region_held3 (fun wx=>wx.cell? ⟨pb,0,none⟩=some (.int .i64 S)/\wx.cell? ⟨pb,1,none⟩=some (.int .i64 L)) (first|exact⟨k1,q1⟩|exact⟨m0,m1⟩) (first|(go_at_call 175;(with_reducible refine C4.out.mono ?_);rintro e w4 ⟨rfl,v4,am,G⟩;have m0:w4.cell? ⟨pb,0,none⟩=some (.int .i64 S):=(World.cell?_of_block (a:=⟨pb,0,none⟩) (G.block pb KP.out)).trans k1;have m1:w4.cell? ⟨pb,1,none⟩=some (.int .i64 L):=(World.cell?_of_block (a:=⟨pb,1,none⟩) (G.block pb KP.out)).trans q1));have r2:w4.cell? ⟨pb,2,none⟩=some (.int .i64 D):=(World.cell?_of_block (a:=⟨pb,2,none⟩) (G.block pb KP.out)).trans q2;have r3:w4.cell? ⟨pb,3,none⟩=some (.int .i64 F):=(World.cell?_of_block (a:=⟨pb,3,none⟩) (G.block pb KP.out)).trans q3;have r1:w4.cell? ⟨g,3,none⟩=some (.pointer (some ⟨gf,0,none⟩)):=am.blk.cell 3;have C5:=hid (C5.out w4.drew v4 (a5.out.drew.kept G a6.out).drew am.drew);have bb:Hid (Kept M w2 w4):=ag.out.drew.trans G;clear am G C4 a5 ag k0 k1 q1 q2 q3 m0 m1;go_upto_region 5 with fail;go_region_held3 (fun wx=>wx.cell? ⟨g,3,none⟩=some (.pointer (some ⟨gf,0,none⟩))/\wx.cell? ⟨pb,2,none⟩=some (.int .i64 D)) (first|exact⟨r1,r2⟩|exact⟨m0,m1⟩) (first|(go_at_call 227;(with_reducible refine C5.out.mono ?_);rintro e w5 ⟨rfl,v5,ar,ae⟩;have m0:w5.cell? ⟨g,3,none⟩=some (.pointer (some ⟨gf,0,none⟩)):=ar.blk.cell 3;have m1:w5.cell? ⟨pb,2,none⟩=some (.int .i64 D):=(World.cell?_of_block (a:=⟨pb,2,none⟩) (ae.block pb KP.out)).trans r2));have n3:w5.cell? ⟨pb,3,none⟩=some (.int .i64 F):=(World.cell?_of_block (a:=⟨pb,3,none⟩) (ae.block pb KP.out)).trans r3;have C6:=hid (C6.out w5.drew v5 ar.drew);have ay:Hid (Kept M w2 w5):=bb.out.drew.trans ae;clear ar ae C5 bb r1 r2 r3 m0;go_upto_region 6 with fail;go_region_held3 (fun wx=>wx.cell? ⟨pb,2,none⟩=some (.int .i64 D)/\wx.cell? ⟨pb,3,none⟩=some (.int .i64 F)) (first|exact⟨m1,n3⟩|exact⟨s0,s1⟩) (first|(go_at_call 175;(with_reducible refine C6.out.mono ?_);rintro e w6 ⟨rfl,v6,a4,ai⟩;have s0:w6.cell? ⟨pb,2,none⟩=some (.int .i64 D):=(World.cell?_of_block (a:=⟨pb,2,none⟩) (ai.block pb KP.out)).trans m1;have s1:w6.cell? ⟨pb,3,none⟩=some (.int .i64 F):=(World.cell?_of_block (a:=⟨pb,3,none⟩) (ai.block pb KP.out)).trans n3));have bg:=hid a4;have bd:Hid (Kept M w2 w6):=ay.out.drew.trans ai;clear a4 ai C6 ay m1 n3 s0 s1;go_wp2_with fail;refine bodyPost_end (BJ rfl _ _ _) rfl ?_;exact⟨rfl,v6,bg.out.weak ba.out,(Kept.of_below Y.out Q.out).trans (Oy bd.out ba.out)⟩
end Huff
end Go.Proofs.YtfgdoknipbpfhaaGreatDoor
