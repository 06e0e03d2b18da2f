/- Plain: the bits that -/
import Derived.Test.YtfgdoknipbpfhaaGreatDoorZBodyBack18
import Derived.Test.YtfgdoknipbpfhaaGreatDoorZBodyBack16
import Derived.Test.YtfgdoknipbpfhaaGreatDoorZBodyBack12
namespace Go.Proofs.YtfgdoknipbpfhaaGreatDoor
open Go.Proofs.Tryz
open Go.Lib (hid)
set_option maxRecDepth 100000
variable{ks lf ls:List Nat}{base g s:Nat}{w:World}{t:TypeId}
namespace TW
open Canon Huff Lens
open Toks (Tk Pc qZ EJ Bb bump CL Dp Dm lg pw Within)
theorem J7(hn:ks.length<=300):Ep ks 15=0:=by
 unfold Ep;rw[Aa nj,Aa];have h:=OO (kOf ks) ks.length;show ¬2 ^ (15:Int).toNat<(vZ (kOf ks) ks.length).length;have:(2:Nat) ^ (15:Int).toNat=32768:=ip
 omega
theorem OL(hn:ks.length<=300)(hs:s<ks.length)(h0:ks.getD s 0≠0):(Db ks 15).getD s 0≠0:=by have hE:=J7 hn;obtain⟨h,L,hL,h1,h2,h3,e⟩:=ok_parts hE;rw[e,bD hs];have hm:s∈vZ (kOf ks) ks.length:=Ko.2 ⟨hs,h0⟩;have:=(LP h1 h3 hm).1;omega
theorem Pv(l:List Int)(i j:Nat):l.getD j 0<=(bump l i).getD j 0:=by
 unfold bump;simp only[List.getD_eq_getElem?_getD,List.getElem?_set];split
 ·rename_i h;subst h;split
  ·simp;omega
  ·rename_i h2;rw[Fk nj];simp
 ·omega
theorem Pp{l:List Int}{i:Nat}(h:i<l.length):(bump l i).getD i 0=l.getD i 0+1:=by unfold bump;simp only[List.getD_eq_getElem?_getD,List.getElem?_set];rw[Ab trivial,Ab h];rfl
theorem U9(st:List Int×List Int)(t:Tk)(j:Nat):st.1.getD j 0<=(CL st t).1.getD j 0/\st.2.getD j 0<=(CL st t).2.getD j 0:=by
 unfold CL;refine⟨Pv _ _ _,?_⟩;simp only;split
 ·omega
 ·exact Pv _ _ _
theorem UY(ts:List Tk):∀ (st:List Int×List Int) (j:Nat),st.1.getD j 0<=(ts.foldl CL st).1.getD j 0/\st.2.getD j 0<=(ts.foldl CL st).2.getD j 0:=by
 induction ts with
 |nil=>intro st j;exact⟨qT,qT⟩
 |cons t ts ih=>intro st j;have h:=ih (CL st t) j;have h2:=U9 st t j;rw[List.foldl_cons];exact⟨nj,nj⟩
theorem Pg{t:Tk}:∀ (ts:List Tk) (st:List Int×List Int),t∈ts->
 ((qZ t).sym.toNat<st.1.length->st.1.getD (qZ t).sym.toNat 0+1<=(ts.foldl CL st).1.getD (qZ t).sym.toNat 0)/\
 (t.len≠0->(qZ t).dist.toNat<st.2.length->st.2.getD (qZ t).dist.toNat 0+1<=(ts.foldl CL st).2.getD (qZ t).dist.toNat 0)
 | [],_,h=>by cases h
 |x :: ts,st,h=>by
  rw[List.foldl_cons];have hl:=Toks.R9 st x;have hs:=U9 st x;rcases AV.1 h with rfl|h
  ·refine⟨fun hS=> ?_,fun h0 hD=> ?_⟩
   ·have h1:=(UY ts (CL st t) (qZ t).sym.toNat).1;have h2:(CL st t).1.getD (qZ t).sym.toNat 0=st.1.getD (qZ t).sym.toNat 0+1:=Pp hS;omega
   ·have h1:=(UY ts (CL st t) (qZ t).dist.toNat).2;have h2:(CL st t).2.getD (qZ t).dist.toNat 0=st.2.getD (qZ t).dist.toNat 0+1:=(by unfold CL;simp only;rw[Aa h0];exact Pp hD);omega
  ·have ih:=Pg ts (CL st x) h;refine⟨fun hS=> ?_,fun h0 hD=> ?_⟩
   ·have h1:=ih.1 (by rw[hl.1];exact hS);have h2:=(hs (qZ t).sym.toNat).1;omega
   ·have h1:=ih.2 h0 (by rw[hl.2];exact hD);have h2:=(hs (qZ t).dist.toNat).2;omega
theorem OB{t:Tk}(hl:t.len≠0)(hm:Bb t.lit t.len t.dist=true):
 ∃b L D F:Nat,qZ t=⟨((257+b:Nat):Int),L,D,F⟩/\b<8/\D<12/\L<2 ^ b/\F<2 ^ D:=by
 have hb:t.lit=0/\3<=t.len/\t.len<=257/\1<=t.dist/\t.dist<=4095:=by unfold Bb at hm;rw[Aa hl]at hm;exact of_decide_eq_true hm
 have a1:=Toks.I6 (t.len-2);have a2:=Toks.I3 (t.len-2) 8 nj nj (by rw[Toks.pw_8];omega);have a3:=Toks.Lf (t.len-2) nj;have a4:=Toks.MR (t.len-2) nj;have b1:=Toks.I6 t.dist;have b2:=Toks.I3 t.dist 12 nj nj (by rw[Toks.OE];omega);have b3:=Toks.Lf t.dist nj;have b4:=Toks.MR t.dist nj;refine⟨(lg (t.len-2)).toNat,(t.len-2-pw (lg (t.len-2))).toNat,(lg t.dist).toNat,(t.dist-pw (lg t.dist)).toNat,?_,nj,nj,?_,?_⟩
 ·unfold qZ;rw[Ab hm,Aa hl];congr 1<;>omega
 ·have:pw (lg (t.len-2))=((2 ^ (lg (t.len-2)).toNat:Nat):Int):=rfl;omega
 ·have:pw (lg t.dist)=((2 ^ (lg t.dist).toNat:Nat):Int):=rfl;omega
theorem VZ{t:Tk}(h0:0<=t.lit)(hl:t.len=0)(hm:Bb t.lit t.len t.dist=true):qZ t=⟨((t.lit.toNat:Nat):Int),0,0,0⟩:=by unfold qZ;rw[Ab hm,Ab hl,Int.toNat_of_nonneg h0]
def BS(ls lf:List Nat)(t:Tk):List Bool:=
 word ls (qZ t).sym.toNat++if t.len=0 then []else
  msb (qZ t).len.toNat ((qZ t).sym.toNat-257) ((qZ t).sym.toNat-257)++(word lf (qZ t).dist.toNat++msb (qZ t).far.toNat (qZ t).dist.toNat (qZ t).dist.toNat)
def Ix(l:List Int):List Nat:=l.map Int.toNat
theorem Nm(l:List Int):(Ix l).length=l.length:=by simp[Ix]
theorem MH(l:List Int)(i:Nat):(Ix l).getD i 0=(l.getD i 0).toNat:=by unfold Ix;rw[Am,Am,BI];cases l[i]? <;>rfl
def ksS(ts:List Tk):List Nat:=Ix (Toks.symsOf ts)
def ksF(ts:List Tk):List Nat:=Ix (Toks.Mn ts)
theorem Hd(ts:List Tk):(ksS ts).length=265:=by unfold ksS Toks.symsOf;rw[Nm,Toks.Qc,(Toks.Lw ts).1]
theorem IV(ts:List Tk):(ksF ts).length=12:=by unfold ksF Toks.Mn;rw[Nm,(Toks.Lw ts).2]
def lsS(ts:List Tk):List Nat:=Db (ksS ts) 15
def lsF(ts:List Tk):List Nat:=Db (ksF ts) 15
theorem Uu(ts:List Tk):(lsS ts).length=265:=by unfold lsS;rw[Mr (J7 pW),Hd]
theorem Uh(ts:List Tk):(lsF ts).length=12:=by unfold lsF;rw[Mr (J7 (by rw[IV];omega)),IV]
theorem QI(ts:List Tk):okB (lsS ts)=true:=Pr (J7 pW) pW
theorem QE(ts:List Tk):okB (lsF ts)=true:=Pr (J7 (by rw[IV];omega)) (by rw[IV];omega)
theorem Pd{ts:List Tk}{t:Tk}(h:t∈ts)(hs:(qZ t).sym.toNat<265):(lsS ts).getD (qZ t).sym.toNat 0≠0:=by
 have h1:=(Pg ts (List.replicate 265 0,List.replicate 12 0) h).1 (by show _<(List.replicate 265 (0:Int)).length;rw[DQ];exact hs);have h2:=Pv (Dp ts).1 256 (qZ t).sym.toNat;refine OL pW (by rw[Hd];exact hs) ?_;unfold ksS;rw[MH];have h3:(List.replicate 265 (0:Int)).getD (qZ t).sym.toNat 0=0:=by simp only[List.getD_eq_getElem?_getD,List.getElem?_replicate];split<;>rfl
 change _<=(Dp ts).1.getD _ 0 at h1
 simp only[h3]at h1;show(Toks.bump (Dp ts).1 256 |>.getD _ 0).toNat≠0;omega
theorem UL(ts:List Tk):(lsS ts).getD 256 0≠0:=by have h2:(bump (Dp ts).1 256).getD 256 0=(Dp ts).1.getD 256 0+1:=Pp (by rw[(Toks.Lw ts).1];omega);have h1:=(Toks.Nw ts).1 256;refine OL pW pW ?_;unfold ksS;rw[MH];show(Toks.bump (Dp ts).1 256 |>.getD _ 0).toNat≠0;omega
theorem O6{ts:List Tk}{t:Tk}(h:t∈ts)(h0:t.len≠0)(hs:(qZ t).dist.toNat<12):(lsF ts).getD (qZ t).dist.toNat 0≠0:=by
 have h1:=(Pg ts (List.replicate 265 0,List.replicate 12 0) h).2 h0 (by show _<(List.replicate 12 (0:Int)).length;rw[DQ];exact hs);refine OL (by rw[IV];omega) (by rw[IV];exact hs) ?_;unfold ksF;rw[MH];have h3:(List.replicate 12 (0:Int)).getD (qZ t).dist.toNat 0=0:=by simp only[List.getD_eq_getElem?_getD,List.getElem?_replicate];split<;>rfl
 change _<=(Dp ts).2.getD _ 0 at h1
 simp only[h3]at h1;show((Dp ts).2.getD _ 0).toNat≠0;omega
def Fw(ts:List Tk):List Bool:=Ev (lsS ts)++Ev (lsF ts)++(ts.flatMap (BS (lsS ts) (lsF ts))++word (lsS ts) 256)
def Ie(ts:List Tk):Int:=if 32768<ts.length then 6 else if Dm ts=true then 0 else 7
def G4(ts:List Tk):List Nat:=if Ie ts=0 then bytesOf (Fw ts)else []
theorem wrGo_length(ls:List Nat):∀f i,(Df ls f i).length<=10*(ls.length-i)
 |0,i=>by simp[Df]
 |f+1,i=>by
  unfold Df;by_cases h:i<ls.length
  ·rw[Ab h];by_cases h0:ls.getD i 0=0
   ·have hx:ls[i]? =some 0:=(by rw[Am,Aw h]at h0;rw[Aw h];exact Az some h0);have r1:1<=BM ls i 64:=(by have:=Lb hx 63;show 1<=BM ls i (63+1);omega);have rf:=Nb ls 64 i nj;have ih:=wrGo_length ls f (i+BM ls i 64);rw[Ab h0,Ag,Ag,rZ,rZ];omega
   ·have ih:=wrGo_length ls f (i+1);rw[Aa h0,Ag,rZ];omega
  ·rw[Aa h];simp
theorem QN(ls:List Nat):(Ev ls).length<=10*ls.length:=wrGo_length ls ls.length 0
theorem LM(h:∀x∈ls,x<=15)(s:Nat):ls.getD s 0<=15:=by
 rw[Am];cases hx:ls[s]? with
 |none=>simp
 |some x=>simpa using h x (Be hx)
theorem Y3(h:∀x∈ls,x<=15)(h':∀x∈lf,x<=15){t:Tk}(hm:Bb t.lit t.len t.dist=true):(BS ls lf t).length<=48:=by
 unfold BS;have h1:=LM h (qZ t).sym.toNat;have h2:=LM h' (qZ t).dist.toNat;by_cases h0:t.len=0
 ·rw[Ab h0,BX,ET];omega
 ·obtain⟨b,L,D,F,e,hb,hD,hL,hF⟩:=OB h0 hm;rw[Aa h0,Ag,Ag,Ag,ET,ET,rZ,rZ];rw[e]at h1 h2 ⊢;simp only[Int.toNat_natCast]at h1 h2 ⊢;omega
theorem Pz{ls lf:List Nat}(h:∀x∈ls,x<=15)(h':∀x∈lf,x<=15):∀ {ts:List Tk},Dm ts=true->(ts.flatMap (BS ls lf)).length<=48*ts.length
 | [],_=>qT
 |t :: ts,hm=>by unfold Dm at hm;rw[List.all_cons,Cf]at hm;have h1:=Y3 h h' hm.1;have h2:=Pz h h' (ts:=ts) hm.2;rw[Cu,Ag,AD];omega
theorem Zg{ts:List Tk}{k:Nat}(h:k<ts.length):(ts.take (k+1)).flatMap (BS ls lf)=(ts.take k).flatMap (BS ls lf)++BS ls lf ts[k]:=by rw[List.take_succ_eq_append_getElem h,IJ];simp
end TW
namespace Huff
open Go.RowKit Mem Canon Own
theorem Wr.stepK{K L:Nat->Prop}{w':World}{rest:List Value}{bs:List Bool}{v:Value}(h:Wr K w base g t rest bs v)(hb:Below w w w')(hL:∀k,L k->K k∨w.heap.size<=k/\k<w'.heap.size):Wr L w' base g t rest bs v:=by
 have hv:∀x,v.ownBlock=some x->x<w.heap.size:=fun x hx=>(Aj h.own x hx).2;refine⟨h.blk.step hb,eZ h.own (fun x hx=>hb.block x (hv x hx)),h.ne,AN h.base hb.size,fun e=> ?_,fun x hx e=> ?_,fun k e=> ?_⟩
 ·rcases hL _ e with e|e
  ·exact h.kg e
  ·have:=h.blk.lt;omega
 ·rcases hL _ e with e|e
  ·exact h.kv x hx e
  ·have:=hv x hx;omega
 ·rcases hL _ e with e|e
  ·have:=h.kK k e;have:=hb.size;omega
  ·exact e.2
theorem Wr.weak{K L:Nat->Prop}{rest:List Value}{bs:List Bool}{v:Value}(h:Wr K w base g t rest bs v)(hl:∀k,L k->K k):Wr L w base g t rest bs v:=
 ⟨h.blk,h.own,h.ne,h.base,fun e=>h.kg (hl _ e),fun x hx e=>h.kv x hx (hl _ e),fun k e=>h.kK k (hl k e)⟩
theorem Ov{K L:Nat->Prop}{a:World}(h:Kept K a w)(hl:∀k,L k->K k):Kept L a w:=⟨h.os,h.tape,h.output,h.size,fun k e=>h.block k (hl k e)⟩
theorem m4{lo B n:Nat}{A:Option Addr}{f:Nat->Nat->Value}(h:Row w B A n s f)(i:0<n->∀p,A=some p->lo<=p.block):RowIn w lo B A n s f:=fun hn=>by obtain⟨b,j,e,hb,hc⟩:=h hn;exact⟨b,j,e,⟨i hn _ e,hb⟩,hc⟩
def MV(K:Nat->Prop)(w:World)(base g:Nat)(t:TypeId)(rest:List Value)(bs:List Bool)(ls:List Nat)(e:Ending)(w':World):Prop:=
 ∃gc lo v',e= .returned (.pointer (some ⟨gc,0,none⟩))/\w.heap.size<=lo/\Coder w' lo w' gc ls/\Wr (fun x=>K x∨lo<=x/\x<w'.heap.size) w' base g t rest bs v'/\Kept K w w'
theorem TQ(K:Nat->Prop)(w:World)(g base:Nat)(t:TypeId)(rest:List Value)(v:Value)(bs:List Bool)(A:Option Addr)(n c:Nat)(ks:List Nat)(hn:ks.length=n)(hN:n<=300)(Q:∀x∈ks,x<4294967296)
 (ha:Row w w A n 1 (jZ .u32 ks))(af:bs.length+10*n<=5000000)(hW:Wr K w base g t rest bs v):
 Calls prog 225 #[.pointer (some ⟨g,0,none⟩), .slice A n c] w (MV K w base g t rest (bs++Ev (Lens.Db ks 15)) (Lens.Db ks 15)):=by
 have C1:=Lens.nY w A n c ks 15 hn nj nj nj Q ha;unfold Lens.I2 at C1;have hE:=TW.J7 (ks:=ks) nj;have ac:=Lens.Pr hE nj;have i:=Lens.Mr hE;rw[hE,i,hn]at C1;rw[hn]at i;have ak:=hid af;have HW:=hid hW;generalize Lens.Db ks 15=ls at *;have HL:=hid i;have Z:=hid ac;have C1:=hid C1;clear hn Q ha hE ac i af hW;go_enter func225,ntmps225;go_wp2_with fail;refine C1.out.mono ?_;rintro e w1 ⟨A1,c1,rfl,y,Y,E,M⟩;have z1:=E.size;have N:=HW.out.stepK (L:=fun x=>K x∨w.heap.size<=x/\x<w1.heap.size) E (fun k h=>h);have j:=m4 y M;have C2:=hid (kV (fun x=>K x∨w.heap.size<=x/\x<w1.heap.size) w1 g base t rest v bs A1 n c1 ls HL.out nj Z.out (fun h0 p hp=>by obtain⟨b,al,e,hb,_⟩:=j h0;rw[e]at hp;cases hp;exact .inr hb) y ak.out N);have J:=hid j;have U:=hid Y;have ah:=hid E;clear y M E N j Y C1;go_wp2_with fail;refine C2.out.mono ?_;rintro e w2 ⟨rfl,v2,ae,G⟩;have z2:=G.size;have z:RowIn w2 w w1 A1 n 1 (jZ .u8 ls):=J.out.keep (fun p h1 h2=>World.cell?_of_block (G.block p.block (.inr ⟨h1,h2⟩)));have C3:=new_any w2 A1 n c1 ls HL.out Z.out U.out.1 (z.row.mono z2);unfold Q6 at C3;have C3:=hid C3;have aa:=hid ae;have ai:=hid G;clear ae G z C2 J U;go_wp2_with fail;refine C3.out.mono ?_;rintro e w3 ⟨gc,rfl,hC,ag⟩;have HC:=hid hC;have ab:=hid ag;clear hC ag C3;go_wp2_with fail;go_ret;refine⟨gc,w2.heap.size,v2,rfl,nj,HC.out,?_,?_⟩
 ·refine aa.out.stepK ab.out (fun k h=> ?_);rcases h with h|h
  ·exact .inl (.inl h)
  ·exact .inr h
 ·have aj:Kept K w w1:=Kept.of_below ah.out fun k h=>HW.out.kK k h;exact(aj.trans (Ov ai.out fun k h=> .inl h)).trans (Kept.of_below ab.out fun k h=>by have:=aa.out.kK k (.inl h);exact this)
end Huff
namespace Huff
open Go.RowKit Mem Canon Own
open Toks (Tk Pc qZ EJ Bb OM)
theorem MC(h:ls.getD s 0≠0):Fl ls (s:Int)≠0:=by unfold Fl;rw[Aa nj,Bu];exact h
def So(K:Nat->Prop)(w:World)(base g:Nat)(t:TypeId)(rest:List Value)(bs:List Bool)(e:Ending)(w':World):Prop:=
 e= .returned (.tuple #[])/\∃v',Wr K w' base g t rest bs v'/\Kept K w w'
set_option maxHeartbeats 1000000 in
theorem Zk(K:Nat->Prop)(w:World)(g base gs gf l1 B1 l2 B2:Nat)(ls lf:List Nat)(bs:List Bool)(v:Value)(tk:Tk)(z:0<=tk.lit/\tk.lit<=255)(hm:Bb tk.lit tk.len tk.dist=true)
 (U:okB ls=true)(af:Coder w l1 B1 gs ls)(ae:∀k,l1<=k->k<B1->K k)(N:okB lf=true)(au:Coder w l2 B2 gf lf)(aw:∀k,l2<=k->k<B2->K k)
 (h1:ls.getD (qZ tk).sym.toNat 0≠0)(h2:tk.len≠0->lf.getD (qZ tk).dist.toNat 0≠0)(bm:bs.length+60<=5000000)
 (hW:Wr K w base g 299 [.pointer (some ⟨gs,0,none⟩), .pointer (some ⟨gf,0,none⟩)] bs v):
 Calls prog 226 #[.pointer (some ⟨g,0,none⟩),tk.val] w (So K w base g 299 [.pointer (some ⟨gs,0,none⟩), .pointer (some ⟨gf,0,none⟩)] (bs++TW.BS ls lf tk)):=by
 have C1:=fun w=>OM tk w z.1 z.2;have al:EJ tk=0:=by unfold EJ;rw[Ab hm]
 have ag:∀x,K x->x<w.heap.size:=hW.kK;rw[al]at C1;by_cases h0:tk.len=0
 ·have hp:=TW.VZ z.1 h0 hm;have hb:TW.BS ls lf tk=word ls tk.lit.toNat:=by unfold TW.BS;rw[Ab h0,BX,hp,Bu]
  rw[hp]at C1 h1;rw[hb];rw[Bu]at h1;have hS:tk.lit.toNat<256:=nj
  generalize tk.lit.toNat=S at *;rw[Toks.Pc.val_mk]at C1;obtain⟨t1,t2,t3⟩:=tk;rw[Toks.Tk.val_mk]at *;have C1:=hid C1;have HW:=hid hW;have ab:=hid af;have Y:=hid ae;have an:=hid U;have H1:=hid (MC h1);have Q:=hid ag;have g1:=ic ((S:Int)<256)
  have g2:decide (S<256)=true:=by simpa using hS
  clear z hm U af ae N au aw h1 h2 hW al h0 hp hb ag;go_enter func226,ntmps226;go_wp2_with fail;refine(C1.out _).mono ?_;rintro e w1 ⟨rfl,aa⟩;have z1:=aa.size;simp at z1;go_upto_region 2 with fail;have i:Below w w (w1.alloc (.cells #[S,ij,ij,ij] 276)):=rF
  have j:Blk (w1.alloc (.cells #[S,ij,ij,ij] 276)) w1 276 #[S,ij,ij,ij]:=Blk.made _ _ _;generalize w1.alloc (.cells #[S,ij,ij,ij] 276)=w2 at *;have z2:=j.lt;have E:=HW.out.stepK (L:=fun x=>K x∨w.heap.size<=x/\x<w2.heap.size) i (fun k h=>h);have ac:=ab.out.keep (w':=w2) (fun b h1 h2=>i.block b (Q.out b (Y.out b h1 h2)));have C2:=hid (NV (fun x=>K x∨w.heap.size<=x/\x<w2.heap.size) w2.drew l1 B1 gs ls g base 299 [.pointer (some ⟨gs,0,none⟩), .pointer (some ⟨gf,0,none⟩)] v bs (S:Int) nj an.out ac.drew (fun k h1 h2=> .inl (Y.out k h1 h2)) H1.out nj E.drew);rw[Bu]at C2;have d0:=E.blk.cell 2;have p0:=j.cell 0;simp at d0 p0;generalize w1.heap.size=pb at *;have KP:Hid (K pb∨w.heap.size<=pb/\pb<w2.heap.size):= .inr ⟨nj,z2⟩;have Z:=hid i;clear i j E ac aa C1 HW ab;go_region_held3 (fun wx=>wx.cell? ⟨g,2,none⟩=some (.pointer (some ⟨gs,0,none⟩))/\wx.cell? ⟨pb,0,none⟩=some (.int .i64 S)) (first|exact⟨d0,p0⟩|exact⟨k0,k1⟩) (first|(go_at_call 227;(with_reducible refine C2.out.mono ?_);rintro e w' ⟨rfl,v2,G,y⟩;have k0:w'.cell? ⟨g,2,none⟩=some (.pointer (some ⟨gs,0,none⟩)):=G.blk.cell 2;have k1:w'.cell? ⟨pb,0,none⟩=some (.int .i64 S):=(World.cell?_of_block (a:=⟨pb,0,none⟩) (y.block pb KP.out)).trans p0));have bf:=hid G;have ai:=hid y;clear G y C2;go_wp2_with fail;refine bodyPost_end (BY rfl _ _ _) rfl ?_;exact⟨rfl,v2,bf.out.weak (fun k h=> .inl h),(Kept.of_below Z.out Q.out).drew.trans (Ov ai.out (fun k h=> .inl h))⟩
 ·obtain⟨b,L,D,F,hp,bk,bh,hL,hF⟩:=TW.OB h0 hm;have hb:TW.BS ls lf tk=word ls (257+b)++(msb L b b++(word lf D++msb F D D)):=by unfold TW.BS;rw[Aa h0,hp];simp only[Int.toNat_natCast,Nat.add_sub_cancel_left]
  replace h2:=h2 h0
  rw[hp]at C1 h1 h2;rw[hb,<-AI,<-AI,<-AI];simp only[Int.toNat_natCast]at h1 h2;obtain⟨_,a0,_⟩:=ok_parts U;obtain⟨_,ak,_⟩:=ok_parts N;have be:(word ls (257+b)).length<=15:=by rw[ET];exact TW.LM a0 _
  have bj:(word lf D).length<=15:=by rw[ET];exact TW.LM ak _
  obtain⟨S,hS⟩:=ii (257+b);rw[<-hS]at C1 h1 be;rw[<-hS];have x1:IntKind.i64.wrap ((S:Int)-257)=(b:Int):=pY
  have x2:IntKind.u64.wrap (L:Int)=(L:Int):=by have:2 ^ b<=2 ^ 8:=Cn nj nj;rw[Bt];omega
  have x3:IntKind.u64.wrap (F:Int)=(F:Int):=by have:2 ^ D<=2 ^ 12:=Cn nj nj;rw[Bt];omega
  rw[Toks.Pc.val_mk]at C1;obtain⟨t1,t2,t3⟩:=tk;rw[Toks.Tk.val_mk]at *;have C1:=hid C1;have HW:=hid hW;have ab:=hid af;have Y:=hid ae;have an:=hid U;have bd:=hid au;have a4:=hid aw;have a9:=hid N;have H1:=hid (MC h1);have H2:=hid (MC h2);have Q:=hid ag;have HL:=hid hL;have HF:=hid hF;have g1:=ig ((S:Int)<256)
  have g2:=ig (S<256)
  have bl:S<=264:=nj
  clear z hm U af ae N au aw h1 h2 hW al h0 hp hb ag hL hF hS a0 ak;go_enter func226,ntmps226;go_wp2_with fail;refine(C1.out _).mono ?_;rintro e w1 ⟨rfl,aa⟩;have z1:=aa.size;simp at z1;go_upto_region 2 with fail;have i:Below w w (w1.alloc (.cells #[S,L,D,F] 276)):=rF
  have j:Blk (w1.alloc (.cells #[S,L,D,F] 276)) w1 276 #[S,L,D,F]:=Blk.made _ _ _;generalize w1.alloc (.cells #[S,L,D,F] 276)=w2 at *;have z2:=j.lt;obtain⟨M,hM⟩:∃M:Nat->Prop,M=fun x=>K x∨w.heap.size<=x/\x<w2.heap.size:=⟨_,rfl⟩;have E:=HW.out.stepK (L:=M) i (fun k h=>by rw[hM]at h;exact h);have ac:Coder w2 l1 B1 gs ls:=ab.out.keep (fun b h1 h2=>i.block b (Q.out b (Y.out b h1 h2)));have a5:Coder w2 l2 B2 gf lf:=bd.out.keep (fun b h1 h2=>i.block b (Q.out b (a4.out b h1 h2)));have av:∀k,l1<=k->k<B1->M k:=fun k h1 h2=>by rw[hM];exact .inl (Y.out k h1 h2)
  have ar:∀k,l2<=k->k<B2->M k:=fun k h1 h2=>by rw[hM];exact .inl (a4.out k h1 h2)
  have ba:∀k,K k->M k:=fun k h=>by rw[hM];exact .inl h
  have C2:=hid (NV M w2.drew l1 B1 gs ls g base 299 [.pointer (some ⟨gs,0,none⟩), .pointer (some ⟨gf,0,none⟩)] v bs (S:Int) nj an.out ac.drew av H1.out nj E.drew);rw[Bu]at C2;have C4:=fun wx vx h=>put_any M wx g base 299 [.pointer (some ⟨gs,0,none⟩), .pointer (some ⟨gf,0,none⟩)] vx (bs++word ls S) L b HL.out nj pd h;have C5:=fun wx vx hc h=>NV M wx l2 B2 gf lf g base 299 [.pointer (some ⟨gs,0,none⟩), .pointer (some ⟨gf,0,none⟩)] vx (bs++word ls S++msb L b b) (D:Int) nj a9.out hc ar H2.out (by simp only[List.length_append,rZ];omega) h;have C6:=fun wx vx h=>put_any M wx g base 299 [.pointer (some ⟨gs,0,none⟩), .pointer (some ⟨gf,0,none⟩)] vx (bs++word ls S++msb L b b++word lf D) F D HF.out nj (by simp only[List.length_append,rZ];omega) h;rw[<-x1,<-x2]at C4;rw[<-x3]at C6;rw[Bu]at C5;have C4:=hid C4;have C5:=hid C5;have C6:=hid C6;have d0:=E.blk.cell 2;have p0:=j.cell 0;have p1:=j.cell 1;have p2:=j.cell 2;have p3:=j.cell 3;simp at d0 p0 p1 p2 p3;generalize w1.heap.size=pb at *;have KP:Hid (M pb):=by show M pb;rw[hM];exact .inr ⟨nj,z2⟩
  have Z:=hid i;have bi:=hid av;have a6:=hid ar;have a1:=hid ba;have az:=hid a5;clear i j E ac aa C1 HW ab hM av ar ba a5 x1 x2 x3;go_region_held3 (fun wx=>wx.cell? ⟨g,2,none⟩=some (.pointer (some ⟨gs,0,none⟩))/\wx.cell? ⟨pb,0,none⟩=some (.int .i64 S)) (first|exact⟨d0,p0⟩|exact⟨k0,k1⟩) (first|(go_at_call 227;(with_reducible refine C2.out.mono ?_);rintro e w' ⟨rfl,v2,G,y⟩;have k0:w'.cell? ⟨g,2,none⟩=some (.pointer (some ⟨gs,0,none⟩)):=G.blk.cell 2;have k1:w'.cell? ⟨pb,0,none⟩=some (.int .i64 S):=(World.cell?_of_block (a:=⟨pb,0,none⟩) (y.block pb KP.out)).trans p0));have q1:w'.cell? ⟨pb,1,none⟩=some (.int .i64 L):=(World.cell?_of_block (a:=⟨pb,1,none⟩) (y.block pb KP.out)).trans p1;have q2:w'.cell? ⟨pb,2,none⟩=some (.int .i64 D):=(World.cell?_of_block (a:=⟨pb,2,none⟩) (y.block pb KP.out)).trans p2;have q3:w'.cell? ⟨pb,3,none⟩=some (.int .i64 F):=(World.cell?_of_block (a:=⟨pb,3,none⟩) (y.block pb KP.out)).trans p3;have C4:=hid (C4.out w'.drew v2 G.drew);have a3:Hid (Coder w' l2 B2 gf lf):=az.out.drew.kept y a6.out;have ai:Hid (Kept M w2 w'):=(Kept.refl M w2).drew.trans y;clear G y C2 az d0 p0 p1 p2 p3;go_upto_region 4 with fail;go_region_held3 (fun wx=>wx.cell? ⟨pb,0,none⟩=some (.int .i64 S)/\wx.cell? ⟨pb,1,none⟩=some (.int .i64 L)) (first|exact⟨k1,q1⟩|exact⟨m0,m1⟩) (first|(go_at_call 175;(with_reducible refine C4.out.mono ?_);rintro e w4 ⟨rfl,v4,aq,J⟩;have m0:w4.cell? ⟨pb,0,none⟩=some (.int .i64 S):=(World.cell?_of_block (a:=⟨pb,0,none⟩) (J.block pb KP.out)).trans k1;have m1:w4.cell? ⟨pb,1,none⟩=some (.int .i64 L):=(World.cell?_of_block (a:=⟨pb,1,none⟩) (J.block pb KP.out)).trans q1));have r2:w4.cell? ⟨pb,2,none⟩=some (.int .i64 D):=(World.cell?_of_block (a:=⟨pb,2,none⟩) (J.block pb KP.out)).trans q2;have r3:w4.cell? ⟨pb,3,none⟩=some (.int .i64 F):=(World.cell?_of_block (a:=⟨pb,3,none⟩) (J.block pb KP.out)).trans q3;have r1:w4.cell? ⟨g,3,none⟩=some (.pointer (some ⟨gf,0,none⟩)):=aq.blk.cell 3;have C5:=hid (C5.out w4.drew v4 (a3.out.drew.kept J a6.out).drew aq.drew);have bb:Hid (Kept M w2 w4):=ai.out.drew.trans J;clear aq J C4 a3 ai k0 k1 q1 q2 q3 m0 m1;go_upto_region 5 with fail;go_region_held3 (fun wx=>wx.cell? ⟨g,3,none⟩=some (.pointer (some ⟨gf,0,none⟩))/\wx.cell? ⟨pb,2,none⟩=some (.int .i64 D)) (first|exact⟨r1,r2⟩|exact⟨m0,m1⟩) (first|(go_at_call 227;(with_reducible refine C5.out.mono ?_);rintro e w5 ⟨rfl,v5,am,ah⟩;have m0:w5.cell? ⟨g,3,none⟩=some (.pointer (some ⟨gf,0,none⟩)):=am.blk.cell 3;have m1:w5.cell? ⟨pb,2,none⟩=some (.int .i64 D):=(World.cell?_of_block (a:=⟨pb,2,none⟩) (ah.block pb KP.out)).trans r2));have n3:w5.cell? ⟨pb,3,none⟩=some (.int .i64 F):=(World.cell?_of_block (a:=⟨pb,3,none⟩) (ah.block pb KP.out)).trans r3;have C6:=hid (C6.out w5.drew v5 am.drew);have ax:Hid (Kept M w2 w5):=bb.out.drew.trans ah;clear am ah C5 bb r1 r2 r3 m0;go_upto_region 6 with fail;go_region_held3 (fun wx=>wx.cell? ⟨pb,2,none⟩=some (.int .i64 D)/\wx.cell? ⟨pb,3,none⟩=some (.int .i64 F)) (first|exact⟨m1,n3⟩|exact⟨s0,s1⟩) (first|(go_at_call 175;(with_reducible refine C6.out.mono ?_);rintro e w6 ⟨rfl,v6,ay,aj⟩;have s0:w6.cell? ⟨pb,2,none⟩=some (.int .i64 D):=(World.cell?_of_block (a:=⟨pb,2,none⟩) (aj.block pb KP.out)).trans m1;have s1:w6.cell? ⟨pb,3,none⟩=some (.int .i64 F):=(World.cell?_of_block (a:=⟨pb,3,none⟩) (aj.block pb KP.out)).trans n3));have bc:=hid ay;have bg:Hid (Kept M w2 w6):=ax.out.drew.trans aj;clear ay aj C6 ax m1 n3 s0 s1;go_wp2_with fail;refine bodyPost_end (BY rfl _ _ _) rfl ?_;exact⟨rfl,v6,bc.out.weak a1.out,(Kept.of_below Z.out Q.out).trans (Ov bg.out a1.out)⟩
end Huff
end Go.Proofs.YtfgdoknipbpfhaaGreatDoor
