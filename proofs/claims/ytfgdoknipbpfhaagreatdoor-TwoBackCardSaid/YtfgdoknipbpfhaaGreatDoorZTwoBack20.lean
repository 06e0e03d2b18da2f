/- The walk of bits' Wr -/
import Derived.Test.YtfgdoknipbpfhaaGreatDoorZTwoBack18
import Derived.Test.YtfgdoknipbpfhaaGreatDoorZTwoBack16
import Derived.Test.YtfgdoknipbpfhaaGreatDoorZTwoBack13
namespace Go.Proofs.YtfgdoknipbpfhaaGreatDoor
open Go.Proofs.Tryz
open Go.Lib (hid)
set_option maxRecDepth 100000
section
variable{ks lf ls:List Nat}{base g s:Nat}{w:World}{t:TypeId}
theorem Kw(hn:ks.length<=300):EQ ks 15=0:=by
 unfold EQ;rw[Aa nj,Aa];have h:=PT (kOf ks) ks.length;show ¬2 ^ (15:Int).toNat<(yZ (kOf ks) ks.length).length;have:(2:Nat) ^ (15:Int).toNat=32768:=ip
 omega
theorem PR(hn:ks.length<=300)(hs:s<ks.length)(h0:ks.getD s 0≠0):(Dr ks 15).getD s 0≠0:=by have hE:=Kw hn;obtain⟨h,L,hL,h1,h2,h3,e⟩:=Ab1 hE;rw[e,jD hs];have hm:s∈yZ (kOf ks) ks.length:=J6.2 ⟨hs,h0⟩;have:=(Lp h1 h3 hm).1;omega
theorem QH(l:List Int)(i j:Nat):l.getD j 0<=(Ak9 l i).getD j 0:=by
 unfold Ak9;simp only[List.getD_eq_getElem?_getD,List.getElem?_set];split
 ·rename_i h;subst h;split
  ·simp;omega
  ·rename_i h2;rw[FN nj];simp
 ·omega
theorem QA{l:List Int}{i:Nat}(h:i<l.length):(Ak9 l i).getD i 0=l.getD i 0+1:=by unfold Ak9;simp only[List.getD_eq_getElem?_getD,List.getElem?_set];rw[Ab trivial,Ab h];rfl
theorem WQ(st:List Int×List Int)(t:Tk)(j:Nat):st.1.getD j 0<=(CV st t).1.getD j 0/\st.2.getD j 0<=(CV st t).2.getD j 0:=by
 unfold CV;refine⟨QH _ _ _,?_⟩;simp only;split
 ·omega
 ·exact QH _ _ _
theorem WF(ts:List Tk):∀ (st:List Int×List Int) (j:Nat),st.1.getD j 0<=(ts.foldl CV st).1.getD j 0/\st.2.getD j 0<=(ts.foldl CV st).2.getD j 0:=by
 induction ts with
 |nil=>intro st j;exact⟨rX,rX⟩
 |cons t ts ih=>intro st j;have h:=ih (CV st t) j;have h2:=WQ st t j;rw[List.foldl_cons];exact⟨nj,nj⟩
theorem Qs{t:Tk}:∀ (ts:List Tk) (st:List Int×List Int),t∈ts->
 ((rZ t).sym.toNat<st.1.length->st.1.getD (rZ t).sym.toNat 0+1<=(ts.foldl CV st).1.getD (rZ t).sym.toNat 0)/\
 (t.len≠0->(rZ t).dist.toNat<st.2.length->st.2.getD (rZ t).dist.toNat 0+1<=(ts.foldl CV st).2.getD (rZ t).dist.toNat 0)
 | [],_,h=>by cases h
 |x :: ts,st,h=>by
  rw[List.foldl_cons];have hl:=Un st x;have hs:=WQ st x;rcases AO.1 h with rfl|h
  ·refine⟨fun hS=> ?_,fun h0 hD=> ?_⟩
   ·have h1:=(WF ts (CV st t) (rZ t).sym.toNat).1;have h2:(CV st t).1.getD (rZ t).sym.toNat 0=st.1.getD (rZ t).sym.toNat 0+1:=QA hS;omega
   ·have h1:=(WF ts (CV st t) (rZ t).dist.toNat).2;have h2:(CV st t).2.getD (rZ t).dist.toNat 0=st.2.getD (rZ t).dist.toNat 0+1:=(by unfold CV;simp only;rw[Aa h0];exact QA hD);omega
  ·have ih:=Qs ts (CV st x) h;refine⟨fun hS=> ?_,fun h0 hD=> ?_⟩
   ·have h1:=ih.1 (by rw[hl.1];exact hS);have h2:=(hs (rZ t).sym.toNat).1;omega
   ·have h1:=ih.2 h0 (by rw[hl.2];exact hD);have h2:=(hs (rZ t).dist.toNat).2;omega
theorem PL{t:Tk}(hl:t.len≠0)(hm:Bb t.lit t.len t.dist=true):
 ∃b L D F:Nat,rZ t=⟨((257+b:Nat):Int),L,D,F⟩/\b<8/\D<12/\L<2 ^ b/\F<2 ^ D:=by
 have hb:t.lit=0/\3<=t.len/\t.len<=257/\1<=t.dist/\t.dist<=4095:=by unfold Bb at hm;rw[Aa hl]at hm;exact of_decide_eq_true hm
 have a1:=Jw (t.len-2);have a2:=Jy (t.len-2) 8 nj nj (by rw[pw_8];omega);have a3:=LQ (t.len-2) nj;have a4:=N8 (t.len-2) nj;have b1:=Jw t.dist;have b2:=Jy t.dist 12 nj nj (by rw[PC];omega);have b3:=LQ t.dist nj;have b4:=N8 t.dist nj;refine⟨(lg (t.len-2)).toNat,(t.len-2-pw (lg (t.len-2))).toNat,(lg t.dist).toNat,(t.dist-pw (lg t.dist)).toNat,?_,nj,nj,?_,?_⟩
 ·unfold rZ;rw[Ab hm,Aa hl];congr 1<;>omega
 ·have:pw (lg (t.len-2))=((2 ^ (lg (t.len-2)).toNat:Nat):Int):=rfl;omega
 ·have:pw (lg t.dist)=((2 ^ (lg t.dist).toNat:Nat):Int):=rfl;omega
theorem Wz{t:Tk}(h0:0<=t.lit)(hl:t.len=0)(hm:Bb t.lit t.len t.dist=true):rZ t=⟨((t.lit.toNat:Nat):Int),0,0,0⟩:=by unfold rZ;rw[Ab hm,Ab hl,Int.toNat_of_nonneg h0]
def Ci(ls lf:List Nat)(t:Tk):List Bool:=
 word ls (rZ t).sym.toNat++if t.len=0 then []else
  msb (rZ t).len.toNat ((rZ t).sym.toNat-257) ((rZ t).sym.toNat-257)++(word lf (rZ t).dist.toNat++msb (rZ t).far.toNat (rZ t).dist.toNat (rZ t).dist.toNat)
def IB(l:List Int):List Nat:=l.map Int.toNat
theorem Ol(l:List Int):(IB l).length=l.length:=by simp[IB]
theorem Nw(l:List Int)(i:Nat):(IB l).getD i 0=(l.getD i 0).toNat:=by unfold IB;rw[Aq,Aq,Co];cases l[i]? <;>rfl
def ksS(ts:List Tk):List Nat:=IB (Aa9 ts)
def ksF(ts:List Tk):List Nat:=IB (Nt ts)
theorem Im(ts:List Tk):(ksS ts).length=265:=by unfold ksS Aa9;rw[Ol,QV,(La ts).1]
theorem Jo(ts:List Tk):(ksF ts).length=12:=by unfold ksF Nt;rw[Ol,(La ts).2]
def lsS(ts:List Tk):List Nat:=Dr (ksS ts) 15
def lsF(ts:List Tk):List Nat:=Dr (ksF ts) 15
theorem W4(ts:List Tk):(lsS ts).length=265:=by unfold lsS;rw[MS (Kw qj),Im]
theorem WM(ts:List Tk):(lsF ts).length=12:=by unfold lsF;rw[MS (Kw (by rw[Jo];omega)),Jo]
theorem O5(ts:List Tk):okB (lsS ts)=true:=Q7 (Kw qj) qj
theorem OY(ts:List Tk):okB (lsF ts)=true:=Q7 (Kw (by rw[Jo];omega)) (by rw[Jo];omega)
theorem QS{ts:List Tk}{t:Tk}(h:t∈ts)(hs:(rZ t).sym.toNat<265):(lsS ts).getD (rZ t).sym.toNat 0≠0:=by
 have h1:=(Qs ts (List.replicate 265 0,List.replicate 12 0) h).1 (by show _<(List.replicate 265 (0:Int)).length;rw[Dv];exact hs);have h2:=QH (Ej ts).1 256 (rZ t).sym.toNat;refine PR qj (by rw[Im];exact hs) ?_;unfold ksS;rw[Nw];have h3:(List.replicate 265 (0:Int)).getD (rZ t).sym.toNat 0=0:=by simp only[List.getD_eq_getElem?_getD,List.getElem?_replicate];split<;>rfl
 change _<=(Ej ts).1.getD _ 0 at h1
 simp only[h3]at h1;show(Ak9 (Ej ts).1 256 |>.getD _ 0).toNat≠0;omega
theorem Wu(ts:List Tk):(lsS ts).getD 256 0≠0:=by have h2:(Ak9 (Ej ts).1 256).getD 256 0=(Ej ts).1.getD 256 0+1:=QA (by rw[(La ts).1];omega);have h1:=(Mj ts).1 256;refine PR qj qj ?_;unfold ksS;rw[Nw];show(Ak9 (Ej ts).1 256 |>.getD _ 0).toNat≠0;omega
theorem QJ{ts:List Tk}{t:Tk}(h:t∈ts)(h0:t.len≠0)(hs:(rZ t).dist.toNat<12):(lsF ts).getD (rZ t).dist.toNat 0≠0:=by
 have h1:=(Qs ts (List.replicate 265 0,List.replicate 12 0) h).2 h0 (by show _<(List.replicate 12 (0:Int)).length;rw[Dv];exact hs);refine PR (by rw[Jo];omega) (by rw[Jo];exact hs) ?_;unfold ksF;rw[Nw];have h3:(List.replicate 12 (0:Int)).getD (rZ t).dist.toNat 0=0:=by simp only[List.getD_eq_getElem?_getD,List.getElem?_replicate];split<;>rfl
 change _<=(Ej ts).2.getD _ 0 at h1
 simp only[h3]at h1;show((Ej ts).2.getD _ 0).toNat≠0;omega
def FP(ts:List Tk):List Bool:=ED (lsS ts)++ED (lsF ts)++(ts.flatMap (Ci (lsS ts) (lsF ts))++word (lsS ts) 256)
def IL(ts:List Tk):Int:=if 32768<ts.length then 6 else if Eg ts=true then 0 else 7
def Ia(ts:List Tk):List Nat:=if IL ts=0 then bytesOf (FP ts)else []
theorem Ad5(ls:List Nat):∀f i,(DQ ls f i).length<=10*(ls.length-i)
 |0,i=>by simp[DQ]
 |f+1,i=>by
  unfold DQ;by_cases h:i<ls.length
  ·rw[Ab h];by_cases h0:ls.getD i 0=0
   ·have hx:ls[i]? =some 0:=(by rw[Aq,Az h]at h0;rw[Az h];exact Aw some h0);have r1:1<=BZ ls i 64:=(by have:=LK hx 63;show 1<=BZ ls i (63+1);omega);have rf:=N3 ls 64 i nj;have ih:=Ad5 ls f (i+BZ ls i 64);rw[Ab h0,Ag,Ag,tZ,tZ];omega
   ·have ih:=Ad5 ls f (i+1);rw[Aa h0,Ag,tZ];omega
  ·rw[Aa h];simp
theorem Tc(ls:List Nat):(ED ls).length<=10*ls.length:=Ad5 ls ls.length 0
theorem Ln(h:∀x∈ls,x<=15)(s:Nat):ls.getD s 0<=15:=by
 rw[Aq];cases hx:ls[s]? with
 |none=>simp
 |some x=>simpa using h x (Bp hx)
theorem aR(h:∀x∈ls,x<=15)(h':∀x∈lf,x<=15){t:Tk}(hm:Bb t.lit t.len t.dist=true):(Ci ls lf t).length<=48:=by
 unfold Ci;have h1:=Ln h (rZ t).sym.toNat;have h2:=Ln h' (rZ t).dist.toNat;by_cases h0:t.len=0
 ·rw[Ab h0,Cg,Ff];omega
 ·obtain⟨b,L,D,F,e,hb,hD,hL,hF⟩:=PL h0 hm;rw[Aa h0,Ag,Ag,Ag,Ff,Ff,tZ,tZ];rw[e]at h1 h2 ⊢;simp only[Int.toNat_natCast]at h1 h2 ⊢;omega
theorem Qp{ls lf:List Nat}(h:∀x∈ls,x<=15)(h':∀x∈lf,x<=15):∀ {ts:List Tk},Eg ts=true->(ts.flatMap (Ci ls lf)).length<=48*ts.length
 | [],_=>rX
 |t :: ts,hm=>by unfold Eg at hm;rw[List.all_cons,Cp]at hm;have h1:=aR h h' hm.1;have h2:=Qp h h' (ts:=ts) hm.2;rw[CD,Ag,AD];omega
theorem cW{ts:List Tk}{k:Nat}(h:k<ts.length):(ts.take (k+1)).flatMap (Ci ls lf)=(ts.take k).flatMap (Ci ls lf)++Ci ls lf ts[k]:=by rw[List.take_succ_eq_append_getElem h,I6];simp
open Go.RowKit
theorem Wr.stepK{K L:Nat->Prop}{w':World}{rest:List Value}{bs:List Bool}{v:Value}(h:Wr K w base g t rest bs v)(hb:Below w w w')(hL:∀k,L k->K k∨w.heap.size<=k/\k<w'.heap.size):Wr L w' base g t rest bs v:=by
 have hv:∀x,v.ownBlock=some x->x<w.heap.size:=fun x hx=>(Aj h.own x hx).2;refine⟨h.blk.step hb,eZ h.own (fun x hx=>hb.block x (hv x hx)),h.ne,AN h.base hb.size,fun e=> ?_,fun x hx e=> ?_,fun k e=> ?_⟩
 ·rcases hL _ e with e|e
  ·exact h.kg e
  ·have:=h.blk.lt;omega
 ·rcases hL _ e with e|e
  ·exact h.kv x hx e
  ·have:=hv x hx;omega
 ·rcases hL _ e with e|e
  ·have:=h.kK k e;have:=hb.size;omega
  ·exact e.2
theorem Wr.weak{K L:Nat->Prop}{rest:List Value}{bs:List Bool}{v:Value}(h:Wr K w base g t rest bs v)(hl:∀k,L k->K k):Wr L w base g t rest bs v:=
 ⟨h.blk,h.own,h.ne,h.base,fun e=>h.kg (hl _ e),fun x hx e=>h.kv x hx (hl _ e),fun k e=>h.kK k (hl k e)⟩
theorem PH{K L:Nat->Prop}{a:World}(h:Kept K a w)(hl:∀k,L k->K k):Kept L a w:=⟨h.os,h.tape,h.output,h.size,fun k e=>h.block k (hl k e)⟩
theorem l8{lo B n:Nat}{A:Option Addr}{f:Nat->Nat->Value}(h:Row w B A n s f)(i:0<n->∀p,A=some p->lo<=p.block):RowIn w lo B A n s f:=fun hn=>by obtain⟨b,j,e,hb,hc⟩:=h hn;exact⟨b,j,e,⟨i hn _ e,hb⟩,hc⟩
def Of(K:Nat->Prop)(w:World)(base g:Nat)(t:TypeId)(rest:List Value)(bs:List Bool)(ls:List Nat)(e:Ending)(w':World):Prop:=
 ∃gc lo v',e= .returned (.pointer (some ⟨gc,0,none⟩))/\w.heap.size<=lo/\Coder w' lo w' gc ls/\Wr (fun x=>K x∨lo<=x/\x<w'.heap.size) w' base g t rest bs v'/\Kept K w w'
theorem Wp(K:Nat->Prop)(w:World)(g base:Nat)(t:TypeId)(rest:List Value)(v:Value)(bs:List Bool)(A:Option Addr)(n c:Nat)(ks:List Nat)(hn:ks.length=n)(hN:n<=300)(ab:∀x∈ks,x<4294967296)
 (ha:Row w w A n 1 (jZ .u32 ks))(U:bs.length+10*n<=5000000)(hW:Wr K w base g t rest bs v):
 Calls prog 225 #[.pointer (some ⟨g,0,none⟩), .slice A n c] w (Of K w base g t rest (bs++ED (Dr ks 15)) (Dr ks 15)):=by
 have C1:=mV w A n c ks 15 hn nj nj nj ab ha;unfold Jq at C1;have hE:=Kw (ks:=ks) nj;have ac:=Q7 hE nj;have i:=MS hE;rw[hE,i,hn]at C1;rw[hn]at i;have ai:=hid U;have HW:=hid hW;generalize Dr ks 15=ls at *;have HL:=hid i;have af:=hid ac;have C1:=hid C1;clear hn ab ha hE ac i U hW;go_enter func225,ntmps225;go_wp2_with fail;refine C1.out.mono ?_;rintro e w1 ⟨A1,c1,rfl,z,Z,E,M⟩;have z1:=E.size;have ag:=HW.out.stepK (L:=fun x=>K x∨w.heap.size<=x/\x<w1.heap.size) E (fun k h=>h);have y:=l8 z M;have C2:=hid (qQ (fun x=>K x∨w.heap.size<=x/\x<w1.heap.size) w1 g base t rest v bs A1 n c1 ls HL.out nj af.out (fun h0 p hp=>by obtain⟨b,al,e,hb,_⟩:=y h0;rw[e]at hp;cases hp;exact .inr hb) z ai.out ag);have J:=hid y;have aa:=hid Z;have aj:=hid E;clear z M E ag y Z C1;go_wp2_with fail;refine C2.out.mono ?_;rintro e w2 ⟨rfl,v2,Y,G⟩;have z2:=G.size;have j:RowIn w2 w w1 A1 n 1 (jZ .u8 ls):=J.out.keep (fun p h1 h2=>World.cell?_of_block (G.block p.block (.inr ⟨h1,h2⟩)));have C3:=Ab6 w2 A1 n c1 ls HL.out af.out aa.out.1 (j.row.mono z2);unfold Te at C3;have C3:=hid C3;have ae:=hid Y;have ah:=hid G;clear Y G j C2 J aa;go_wp2_with fail;refine C3.out.mono ?_;rintro e w3 ⟨gc,rfl,hC,Q⟩;have HC:=hid hC;have N:=hid Q;clear hC Q C3;go_wp2_with fail;go_ret;refine⟨gc,w2.heap.size,v2,rfl,nj,HC.out,?_,?_⟩
 ·refine ae.out.stepK N.out (fun k h=> ?_);rcases h with h|h
  ·exact .inl (.inl h)
  ·exact .inr h
 ·have ak:Kept K w w1:=Kept.of_below aj.out fun k h=>HW.out.kK k h;exact(ak.trans (PH ah.out fun k h=> .inl h)).trans (Kept.of_below N.out fun k h=>by have:=ae.out.kK k (.inl h);exact this)
theorem Nr(h:ls.getD s 0≠0):FG ls (s:Int)≠0:=by unfold FG;rw[Aa nj,BD];exact h
def TG(K:Nat->Prop)(w:World)(base g:Nat)(t:TypeId)(rest:List Value)(bs:List Bool)(e:Ending)(w':World):Prop:=
 e= .returned (.tuple #[])/\∃v',Wr K w' base g t rest bs v'/\Kept K w w'
set_option maxHeartbeats 1000000 in
theorem eD(K:Nat->Prop)(w:World)(g base gs gf l1 B1 l2 B2:Nat)(ls lf:List Nat)(bs:List Bool)(v:Value)(tk:Tk)(z:0<=tk.lit/\tk.lit<=255)(hm:Bb tk.lit tk.len tk.dist=true)
 (Z:okB ls=true)(ai:Coder w l1 B1 gs ls)(ae:∀k,l1<=k->k<B1->K k)(N:okB lf=true)(an:Coder w l2 B2 gf lf)(au:∀k,l2<=k->k<B2->K k)
 (h1:ls.getD (rZ tk).sym.toNat 0≠0)(h2:tk.len≠0->lf.getD (rZ tk).dist.toNat 0≠0)(bk:bs.length+60<=5000000)
 (hW:Wr K w base g 299 [.pointer (some ⟨gs,0,none⟩), .pointer (some ⟨gf,0,none⟩)] bs v):
 Calls prog 226 #[.pointer (some ⟨g,0,none⟩),tk.val] w (TG K w base g 299 [.pointer (some ⟨gs,0,none⟩), .pointer (some ⟨gf,0,none⟩)] (bs++Ci ls lf tk)):=by
 have C1:=fun w=>Qc tk w z.1 z.2;have am:Fa tk=0:=by unfold Fa;rw[Ab hm]
 have ag:∀x,K x->x<w.heap.size:=hW.kK;rw[am]at C1;by_cases h0:tk.len=0
 ·have hp:=Wz z.1 h0 hm;have hb:Ci ls lf tk=word ls tk.lit.toNat:=by unfold Ci;rw[Ab h0,Cg,hp,BD]
  rw[hp]at C1 h1;rw[hb];rw[BD]at h1;have hS:tk.lit.toNat<256:=nj
  generalize tk.lit.toNat=S at *;rw[Pc.val_mk]at C1;obtain⟨t1,t2,t3⟩:=tk;rw[Tk.val_mk]at *;have C1:=hid C1;have HW:=hid hW;have ac:=hid ai;have aa:=hid ae;have av:=hid Z;have H1:=hid (Nr h1);have Q:=hid ag;have g1:=ic ((S:Int)<256)
  have g2:decide (S<256)=true:=by simpa using hS
  clear z hm Z ai ae N an au h1 h2 hW am h0 hp hb ag;go_enter func226,ntmps226;go_wp2_with fail;refine(C1.out _).mono ?_;rintro e w1 ⟨rfl,U⟩;have z1:=U.size;simp at z1;go_upto_region 2 with fail;have j:Below w w (w1.alloc (.cells #[S,ij,ij,ij] 276)):=sT
  have i:Blk (w1.alloc (.cells #[S,ij,ij,ij] 276)) w1 276 #[S,ij,ij,ij]:=Blk.made _ _ _;generalize w1.alloc (.cells #[S,ij,ij,ij] 276)=w2 at *;have z2:=i.lt;have G:=HW.out.stepK (L:=fun x=>K x∨w.heap.size<=x/\x<w2.heap.size) j (fun k h=>h);have ab:=ac.out.keep (w':=w2) (fun b h1 h2=>j.block b (Q.out b (aa.out b h1 h2)));have C2:=hid (MF (fun x=>K x∨w.heap.size<=x/\x<w2.heap.size) w2.drew l1 B1 gs ls g base 299 [.pointer (some ⟨gs,0,none⟩), .pointer (some ⟨gf,0,none⟩)] v bs (S:Int) nj av.out ab.drew (fun k h1 h2=> .inl (aa.out k h1 h2)) H1.out nj G.drew);rw[BD]at C2;have d0:=G.blk.cell 2;have p0:=i.cell 0;simp at d0 p0;generalize w1.heap.size=pb at *;have KP:Hid (K pb∨w.heap.size<=pb/\pb<w2.heap.size):= .inr ⟨nj,z2⟩;have Y:=hid j;clear j i G ab U C1 HW ac;go_region_held3 (fun wx=>wx.cell? ⟨g,2,none⟩=some (.pointer (some ⟨gs,0,none⟩))/\wx.cell? ⟨pb,0,none⟩=some (.int .i64 S)) (first|exact⟨d0,p0⟩|exact⟨k0,k1⟩) (first|(go_at_call 227;(with_reducible refine C2.out.mono ?_);rintro e w' ⟨rfl,v2,E,y⟩;have k0:w'.cell? ⟨g,2,none⟩=some (.pointer (some ⟨gs,0,none⟩)):=E.blk.cell 2;have k1:w'.cell? ⟨pb,0,none⟩=some (.int .i64 S):=(World.cell?_of_block (a:=⟨pb,0,none⟩) (y.block pb KP.out)).trans p0));have ba:=hid E;have ah:=hid y;clear E y C2;go_wp2_with fail;refine bodyPost_end (Cb rfl _ _ _) rfl ?_;exact⟨rfl,v2,ba.out.weak (fun k h=> .inl h),(Kept.of_below Y.out Q.out).drew.trans (PH ah.out (fun k h=> .inl h))⟩
 ·obtain⟨b,L,D,F,hp,bh,bf,hL,hF⟩:=PL h0 hm;have hb:Ci ls lf tk=word ls (257+b)++(msb L b b++(word lf D++msb F D D)):=by unfold Ci;rw[Aa h0,hp];simp only[Int.toNat_natCast,Nat.add_sub_cancel_left]
  replace h2:=h2 h0
  rw[hp]at C1 h1 h2;rw[hb,<-AE,<-AE,<-AE];simp only[Int.toNat_natCast]at h1 h2;obtain⟨_,a7,_⟩:=Ab0 Z;obtain⟨_,ak,_⟩:=Ab0 N;have bb:(word ls (257+b)).length<=15:=by rw[Ff];exact Ln a7 _
  have bj:(word lf D).length<=15:=by rw[Ff];exact Ln ak _
  obtain⟨S,hS⟩:=ii (257+b);rw[<-hS]at C1 h1 bb;rw[<-hS];have x1:IntKind.i64.wrap ((S:Int)-257)=(b:Int):=qk
  have x2:IntKind.u64.wrap (L:Int)=(L:Int):=by have:2 ^ b<=2 ^ 8:=Cm nj nj;rw[Bi];omega
  have x3:IntKind.u64.wrap (F:Int)=(F:Int):=by have:2 ^ D<=2 ^ 12:=Cm nj nj;rw[Bi];omega
  rw[Pc.val_mk]at C1;obtain⟨t1,t2,t3⟩:=tk;rw[Tk.val_mk]at *;have C1:=hid C1;have HW:=hid hW;have ac:=hid ai;have aa:=hid ae;have av:=hid Z;have bc:=hid an;have ax:=hid au;have a5:=hid N;have H1:=hid (Nr h1);have H2:=hid (Nr h2);have Q:=hid ag;have HL:=hid hL;have HF:=hid hF;have g1:=ig ((S:Int)<256)
  have g2:=ig (S<256)
  have bg:S<=264:=nj
  clear z hm Z ai ae N an au h1 h2 hW am h0 hp hb ag hL hF hS a7 ak;go_enter func226,ntmps226;go_wp2_with fail;refine(C1.out _).mono ?_;rintro e w1 ⟨rfl,U⟩;have z1:=U.size;simp at z1;go_upto_region 2 with fail;have j:Below w w (w1.alloc (.cells #[S,L,D,F] 276)):=sT
  have i:Blk (w1.alloc (.cells #[S,L,D,F] 276)) w1 276 #[S,L,D,F]:=Blk.made _ _ _;generalize w1.alloc (.cells #[S,L,D,F] 276)=w2 at *;have z2:=i.lt;obtain⟨M,hM⟩:∃M:Nat->Prop,M=fun x=>K x∨w.heap.size<=x/\x<w2.heap.size:=⟨_,rfl⟩;have G:=HW.out.stepK (L:=M) j (fun k h=>by rw[hM]at h;exact h);have ab:Coder w2 l1 B1 gs ls:=ac.out.keep (fun b h1 h2=>j.block b (Q.out b (aa.out b h1 h2)));have az:Coder w2 l2 B2 gf lf:=bc.out.keep (fun b h1 h2=>j.block b (Q.out b (ax.out b h1 h2)));have ar:∀k,l1<=k->k<B1->M k:=fun k h1 h2=>by rw[hM];exact .inl (aa.out k h1 h2)
  have aw:∀k,l2<=k->k<B2->M k:=fun k h1 h2=>by rw[hM];exact .inl (ax.out k h1 h2)
  have a8:∀k,K k->M k:=fun k h=>by rw[hM];exact .inl h
  have C2:=hid (MF M w2.drew l1 B1 gs ls g base 299 [.pointer (some ⟨gs,0,none⟩), .pointer (some ⟨gf,0,none⟩)] v bs (S:Int) nj av.out ab.drew ar H1.out nj G.drew);rw[BD]at C2;have C4:=fun wx vx h=>Ad3 M wx g base 299 [.pointer (some ⟨gs,0,none⟩), .pointer (some ⟨gf,0,none⟩)] vx (bs++word ls S) L b HL.out nj pf h;have C5:=fun wx vx hc h=>MF M wx l2 B2 gf lf g base 299 [.pointer (some ⟨gs,0,none⟩), .pointer (some ⟨gf,0,none⟩)] vx (bs++word ls S++msb L b b) (D:Int) nj a5.out hc aw H2.out (by simp only[List.length_append,tZ];omega) h;have C6:=fun wx vx h=>Ad3 M wx g base 299 [.pointer (some ⟨gs,0,none⟩), .pointer (some ⟨gf,0,none⟩)] vx (bs++word ls S++msb L b b++word lf D) F D HF.out nj (by simp only[List.length_append,tZ];omega) h;rw[<-x1,<-x2]at C4;rw[<-x3]at C6;rw[BD]at C5;have C4:=hid C4;have C5:=hid C5;have C6:=hid C6;have d0:=G.blk.cell 2;have p0:=i.cell 0;have p1:=i.cell 1;have p2:=i.cell 2;have p3:=i.cell 3;simp at d0 p0 p1 p2 p3;generalize w1.heap.size=pb at *;have KP:Hid (M pb):=by show M pb;rw[hM];exact .inr ⟨nj,z2⟩
  have Y:=hid j;have bi:=hid ar;have a4:=hid aw;have a1:=hid a8;have a0:=hid az;clear j i G ab U C1 HW ac hM ar aw a8 az x1 x2 x3;go_region_held3 (fun wx=>wx.cell? ⟨g,2,none⟩=some (.pointer (some ⟨gs,0,none⟩))/\wx.cell? ⟨pb,0,none⟩=some (.int .i64 S)) (first|exact⟨d0,p0⟩|exact⟨k0,k1⟩) (first|(go_at_call 227;(with_reducible refine C2.out.mono ?_);rintro e w' ⟨rfl,v2,E,y⟩;have k0:w'.cell? ⟨g,2,none⟩=some (.pointer (some ⟨gs,0,none⟩)):=E.blk.cell 2;have k1:w'.cell? ⟨pb,0,none⟩=some (.int .i64 S):=(World.cell?_of_block (a:=⟨pb,0,none⟩) (y.block pb KP.out)).trans p0));have q1:w'.cell? ⟨pb,1,none⟩=some (.int .i64 L):=(World.cell?_of_block (a:=⟨pb,1,none⟩) (y.block pb KP.out)).trans p1;have q2:w'.cell? ⟨pb,2,none⟩=some (.int .i64 D):=(World.cell?_of_block (a:=⟨pb,2,none⟩) (y.block pb KP.out)).trans p2;have q3:w'.cell? ⟨pb,3,none⟩=some (.int .i64 F):=(World.cell?_of_block (a:=⟨pb,3,none⟩) (y.block pb KP.out)).trans p3;have C4:=hid (C4.out w'.drew v2 E.drew);have a3:Hid (Coder w' l2 B2 gf lf):=a0.out.drew.kept y a4.out;have ah:Hid (Kept M w2 w'):=(Kept.refl M w2).drew.trans y;clear E y C2 a0 d0 p0 p1 p2 p3;go_upto_region 4 with fail;go_region_held3 (fun wx=>wx.cell? ⟨pb,0,none⟩=some (.int .i64 S)/\wx.cell? ⟨pb,1,none⟩=some (.int .i64 L)) (first|exact⟨k1,q1⟩|exact⟨m0,m1⟩) (first|(go_at_call 175;(with_reducible refine C4.out.mono ?_);rintro e w4 ⟨rfl,v4,aq,J⟩;have m0:w4.cell? ⟨pb,0,none⟩=some (.int .i64 S):=(World.cell?_of_block (a:=⟨pb,0,none⟩) (J.block pb KP.out)).trans k1;have m1:w4.cell? ⟨pb,1,none⟩=some (.int .i64 L):=(World.cell?_of_block (a:=⟨pb,1,none⟩) (J.block pb KP.out)).trans q1));have r2:w4.cell? ⟨pb,2,none⟩=some (.int .i64 D):=(World.cell?_of_block (a:=⟨pb,2,none⟩) (J.block pb KP.out)).trans q2;have r3:w4.cell? ⟨pb,3,none⟩=some (.int .i64 F):=(World.cell?_of_block (a:=⟨pb,3,none⟩) (J.block pb KP.out)).trans q3;have r1:w4.cell? ⟨g,3,none⟩=some (.pointer (some ⟨gf,0,none⟩)):=aq.blk.cell 3;have C5:=hid (C5.out w4.drew v4 (a3.out.drew.kept J a4.out).drew aq.drew);have a9:Hid (Kept M w2 w4):=ah.out.drew.trans J;clear aq J C4 a3 ah k0 k1 q1 q2 q3 m0 m1;go_upto_region 5 with fail;go_region_held3 (fun wx=>wx.cell? ⟨g,3,none⟩=some (.pointer (some ⟨gf,0,none⟩))/\wx.cell? ⟨pb,2,none⟩=some (.int .i64 D)) (first|exact⟨r1,r2⟩|exact⟨m0,m1⟩) (first|(go_at_call 227;(with_reducible refine C5.out.mono ?_);rintro e w5 ⟨rfl,v5,al,aj⟩;have m0:w5.cell? ⟨g,3,none⟩=some (.pointer (some ⟨gf,0,none⟩)):=al.blk.cell 3;have m1:w5.cell? ⟨pb,2,none⟩=some (.int .i64 D):=(World.cell?_of_block (a:=⟨pb,2,none⟩) (aj.block pb KP.out)).trans r2));have n3:w5.cell? ⟨pb,3,none⟩=some (.int .i64 F):=(World.cell?_of_block (a:=⟨pb,3,none⟩) (aj.block pb KP.out)).trans r3;have C6:=hid (C6.out w5.drew v5 al.drew);have a6:Hid (Kept M w2 w5):=a9.out.drew.trans aj;clear al aj C5 a9 r1 r2 r3 m0;go_upto_region 6 with fail;go_region_held3 (fun wx=>wx.cell? ⟨pb,2,none⟩=some (.int .i64 D)/\wx.cell? ⟨pb,3,none⟩=some (.int .i64 F)) (first|exact⟨m1,n3⟩|exact⟨s0,s1⟩) (first|(go_at_call 175;(with_reducible refine C6.out.mono ?_);rintro e w6 ⟨rfl,v6,ay,af⟩;have s0:w6.cell? ⟨pb,2,none⟩=some (.int .i64 D):=(World.cell?_of_block (a:=⟨pb,2,none⟩) (af.block pb KP.out)).trans m1;have s1:w6.cell? ⟨pb,3,none⟩=some (.int .i64 F):=(World.cell?_of_block (a:=⟨pb,3,none⟩) (af.block pb KP.out)).trans n3));have bd:=hid ay;have be:Hid (Kept M w2 w6):=a6.out.drew.trans af;clear ay af C6 a6 m1 n3 s0 s1;go_wp2_with fail;refine bodyPost_end (Cb rfl _ _ _) rfl ?_;exact⟨rfl,v6,bd.out.weak a1.out,(Kept.of_below Y.out Q.out).trans (PH be.out a1.out)⟩
end
variable{w:World}{g n:Nat}{l:List Int}{b:Int}
open Go.RowKit
theorem Wa(w:World)(g:Nat)(A:Option Addr)(n c:Nat)(ls:List Nat)(hn:ls.length=n)(i:n<=100000)(h:A=none->n=0/\c=0)
 (hg:w.cell? ⟨g,0,none⟩=some (.slice A n c))(ha:Row w w A n 1 (jZ .u8 ls)):
 Calls prog 177 #[.pointer (some ⟨g,0,none⟩)] w fun e w'=>∃v,e= .returned v/\w'.ownsRow w 5 1 v n (dZ .u8 ls)/\Below w w w':=by
 have C:=hid (IS w A n c ls hn i h ha);clear hn i h ha;go_enter func177,ntmps177;go_wp2_with fail;refine C.out.mono ?_;rintro e w1 ⟨v,rfl,hv,hb⟩;go_wp2_with fail;go_ret;exact⟨_,rfl,hv,hb⟩
theorem Wr.rowOf{K:Nat->Prop}{base c:Nat}{t:TypeId}{rest:List Value}{bs:List Bool}{A:Option Addr}(h:Wr K w base g t rest bs (.slice A n c)):(bytesOf bs).length=n/\Row w w A n 1 (jZ .u8 (bytesOf bs))/\(A=none->n=0/\c=0):=by
 have ho:=h.own
 have hn:(bytesOf bs).length=n:=by
  exact a2u
 rw[hn]at ho;exact⟨hn,Row.of_own ho rfl (fun i j hi hj=>by have e0:j=0:=nj;subst e0;exact Ab2 nj),(Et ho).1⟩
def IK(ts:List Tk)(w:World)(e:Ending)(w':World):Prop:=
 ∃v,e= .returned (.tuple #[v, .int .i64 (IL ts)])/\w'.ownsRow w 5 1 v (Ia ts).length (dZ .u8 (Ia ts))/\Below w w w'
theorem Wg{B:Nat}(h:Blk w g 149 (ints .u32 l))(hg:g<B)(hl:Within b l)(hn:l.length=n):Row w B (some ⟨g,0,none⟩) n 1 (jZ .u32 (IB l)):=
 Row.of_blk h hg fun i j hi hj=>by
  obtain rfl:j=0:=nj
  rw[CZ,Bt,LV _ _ _ nj];unfold jZ;rw[Nw,Int.toNat_of_nonneg (hl i).1]
theorem V3(hl:Within b l)(hb:b<4294967296):∀x∈IB l,x<4294967296:=by intro x hx;unfold IB at hx;obtain⟨y,hy,rfl⟩:=CH.1 hx;obtain⟨i,hi,rfl⟩:=List.mem_iff_getElem.1 hy;have:=hl i;rw[Aq,Az hi,Gz]at this;omega
theorem Zg{ts:List Tk}(h:∀t∈ts,0<=t.lit/\t.lit<=255)(j:Eg ts=true):∀t∈ts,Bb t.lit t.len t.dist=true/\(lsS ts).getD (rZ t).sym.toNat 0≠0/\(t.len≠0->(lsF ts).getD (rZ t).dist.toNat 0≠0):=by
 intro t ht;unfold Eg at j;have hm:=GE.1 j t ht;obtain⟨S,D,L,F,i,hS,hD,_⟩:=Ni t (h t ht).1 (h t ht).2 hm;have e1:(rZ t).sym.toNat=S:=by rw[i];rfl
 have e2:(rZ t).dist.toNat=D:=by rw[i];rfl
 exact⟨hm,QS ht nj,fun h0=>QJ ht h0 nj⟩
theorem Wr.start4{K:Nat->Prop}(w:World)(base:Nat)(t:TypeId)(rest:List Value)(i:base<=w.heap.size)(hK:∀k,K k->k<w.heap.size):Wr K (w.alloc (.cells (List.toArray (.slice none 0 0 :: .int .i64 0 :: rest)) t)) base w t rest [] (.slice none 0 0):=by refine⟨Blk.made _ _ _,AI _ _ _ _,(fun h=>by cases h),sj,(fun h=>by have:=hK _ h;omega),(fun x h=>by cases h),fun k h=>by have:=hK k h;simp;omega⟩
theorem aO(w:World)(A:Option Addr)(n c:Nat)(ts:List Tk)(hn:ts.length=n)(hN:n<=32768)(i:∀t∈ts,0<=t.lit/\t.lit<=255)(ha:Row w w A n 3 (Hy ts))(j:Eg ts=false):
 Calls prog 166 #[.slice A n c] w (IK ts w):=by
 have hE:IL ts=7:=by unfold IL;rw[Aa nj,Aa (by rw[j];simp)]
 have hO:Ia ts= []:=by unfold Ia;rw[hE];rfl
 have C0:=PY w A n c ts hn hN i ha;unfold Aa3 at C0;have C0:=hid C0;have z:=hid j;unfold IK;rw[hE,hO];clear hE hO hn i ha j;go_enter func166,ntmps166;go_wp2_with fail;refine C0.out.mono ?_;rintro e w1 ⟨y,h|⟨_,rfl⟩⟩
 ·have:=z.out;rw[h.1]at this;cases this
 ·go_wp2_with fail;go_ret2;exact⟨_,rfl,AI _ _ _ _,y⟩
set_option maxHeartbeats 2000000 in
theorem YU(w:World)(A:Option Addr)(n c:Nat)(ts:List Tk)(hn:ts.length=n)(hN:n<=16000)(Q:∀t∈ts,0<=t.lit/\t.lit<=255)(ha:Row w w A n 3 (Hy ts))(ac:Eg ts=true):
 Calls prog 166 #[.slice A n c] w (IK ts w):=by
 have hE:IL ts=0:=by unfold IL;rw[Aa nj,Ab ac]
 have hO:Ia ts=bytesOf (FP ts):=by unfold Ia;rw[hE];rfl
 have C0:=PY w A n c ts hn nj Q ha;unfold Aa3 at C0;have bb:=Mj ts;have be:Within 32769 (Aa9 ts):=(bb.1.bump 256).mono nj;have bj:Within 32769 (Nt ts):=bb.2.mono nj;have cO:=hid be;have cz:=hid bj;have b7:(ksS ts).length=265:=Im ts;have b0:(ksF ts).length=12:=Jo ts;have a4:∀x∈ksS ts,x<4294967296:=V3 be nj;have a5:∀x∈ksF ts,x<4294967296:=V3 bj nj;have D1:=fun(K:Nat->Prop) wx g base rest v gs (h:Row wx wx (some ⟨gs,0,none⟩) 265 1 (jZ .u32 (ksS ts))) hW=>Wp K wx g base 299 rest v [] (some ⟨gs,0,none⟩) 265 265 (ksS ts) b7 nj a4 h rX hW;have D2:=fun(K:Nat->Prop) wx g base rest v gs bs (hle:bs.length+10*12<=5000000) (h:Row wx wx (some ⟨gs,0,none⟩) 12 1 (jZ .u32 (ksF ts))) hW=>Wp K wx g base 299 rest v bs (some ⟨gs,0,none⟩) 12 12 (ksF ts) b0 nj a5 h hle hW;have Y:=Zg Q ac;have a7:=Wu ts;have al:=O5 ts;have ak:=OY ts;have bn:=Tc (lsS ts);have bS:=Tc (lsF ts);rw[W4]at bn;rw[WM]at bS;have j:FP ts=ED (lsS ts)++ED (lsF ts)++(ts.flatMap (Ci (lsS ts) (lsF ts))++word (lsS ts) 256):=rfl
 change ∀ (K:Nat->Prop) wx g base rest v gs,_->_->Calls _ _ _ _ (Of K wx base g 299 rest ([]++ED (lsS ts)) (lsS ts))at D1
 change ∀ (K:Nat->Prop) wx g base rest v gs bs,_->_->_->Calls _ _ _ _ (Of K wx base g 299 rest (bs++ED (lsF ts)) (lsF ts))at D2
 unfold IK;rw[hE,hO,j];generalize lsS ts=ls at *;generalize lsF ts=lf at *;unfold Of at D1 D2;simp only[List.nil_append]at D1;obtain⟨hd,ay⟩:=ii (ED ls++ED lf);rw[<-ay];have c4:hd.length<=2770:=by rw[ay,Ag];omega
 have D1:=hid D1;have D2:=hid D2;have C0:=hid C0;have HN:=hid hn;have av:=hid Y;have cj:=hid (show FG ls 256≠0 from Nr (s:=256) a7);have az:=hid al;have cx:=hid ak;have cy:=hid ac;have b6:=hid Q;have cC:=hid ay;have HA:=hid ha;have cA:=hid bn;have U:=(Ab0 al).2.1;have aa:=(Ab0 ak).2.1;have cB:=hid (Qp (ts:=ts) U aa ac);have bp:=fun k=>Qp (ts:=ts.take k) U aa;have bp:=hid bp;have cX:(word ls 256).length<=15:=by rw[Ff];exact Ln U _
 clear hE hO hn Q ha ac bb be bj b7 b0 a4 a5 Y a7 al ak bS j ay bn U aa;go_enter func166,ntmps166;go_wp2_with fail;refine C0.out.mono ?_;rintro e w1 ⟨au,⟨_,gs,gf,rfl,ae,ab,c6,c8⟩|⟨h,_⟩⟩
 ·have z1:=au.size;have zs:=ae.lt;have zf:=ab.lt;go_wp2_with fail;have bl:=Wr.start4 (K:=fun x=>x<w1.heap.size) w1 w 299 [.pointer none, .pointer none] z1 (fun k h=>h);have E:Below w1 w1 (w1.alloc (.cells #[(),ij, .pointer none, .pointer none] 299)):=aZ (Ae _ _);have z2:(w1.alloc (.cells #[(),ij, .pointer none, .pointer none] 299)).heap.size=w1.heap.size+1:=by simp
  change Wr (fun x=>x<w1.heap.size) (w1.alloc (.cells #[(),ij, .pointer none, .pointer none] 299)) _ _ _ _ _ _ at bl
  generalize w1.alloc (.cells #[(),ij, .pointer none, .pointer none] 299)=w2 at *;have ct:=Wg (ae.step E) (B:=w2.heap.size) nj cO.out (Ol _ ▸ Im ts);have C1:=hid (D1.out (fun x=>x<w1.heap.size) w2 w1 w _ _ gs ct bl);have cM:=hid au;have af:Hid (Blk w2 gf _ _):=ab.step E;have bO:Hid (Below w w w2):=au.trans (E.mono z1);generalize hg:w1.heap.size=g at *;clear hg bl ct ae ab E au D1 C0 cM;refine C1.out.mono ?_;rintro e w3 ⟨gc,lo,v3,rfl,c5,bm,y,Z⟩;have z3:=Z.size;have cT:=bm.lt;have d2:=y.blk.cell 2;have f2:=y.blk.frozen 2;simp at d2;have bN:=hid y;have b4:=hid bm;have ag:=hid Z;clear bm y Z C1;go_wp2_with fail;have ba:=bN.out.putRest 0 (.pointer (some ⟨gc,0,none⟩));have J:Kept (fun x=>x≠g) w3 (w3.setCell ⟨g,2,none⟩ (.pointer (some ⟨gc,0,none⟩))):=(Kept.refl _ _).set (fun h=>h rfl) _;have z4:=J.size;simp only[List.set_cons_zero,Nat.zero_add]at ba;generalize w3.setCell ⟨g,2,none⟩ (.pointer (some ⟨gc,0,none⟩))=w4 at *;have co:Coder w4 lo w3 gc ls:=b4.out.keep (fun b h1 h2=>J.block b nj);have ai:Blk w4 gf _ _:=(J.block gf nj).trans ((ag.out.block gf nj).trans af.out);have a8:Kept (fun x=>x<g) w2 w4:=ag.out.trans ⟨J.os,J.tape,J.output,J.size,fun b h=>J.block b nj⟩;have cp:=Wg (ai) (B:=w4.heap.size) nj cz.out (Ol _ ▸ Jo ts);have C2:=hid (D2.out _ w4 g w _ v3 gf (ED ls) (by have:=cA.out;omega) cp ba);have cg:=hid co;have a1:=hid a8;clear ba J co ai a8 cp bN b4 ag d2 f2 D2 af;refine C2.out.mono ?_;rintro e w5 ⟨gd,ar,v5,rfl,cP,bt,an,bu⟩;have z5:=bu.size;have cS:=bt.lt;have d3:=an.blk.cell 3;have f3:=an.blk.frozen 3;simp at d3;have b8:=hid an;have b9:=hid bt;have M:=hid bu;clear bt an bu C2;go_wp2_with fail;have aw:=b8.out.putRest 1 (.pointer (some ⟨gd,0,none⟩));have G:Kept (fun x=>x≠g) w5 (w5.setCell ⟨g,3,none⟩ (.pointer (some ⟨gd,0,none⟩))):=(Kept.refl _ _).set (fun h=>h rfl) _;have z6:=G.size;simp only[List.set_cons_succ,List.set_cons_zero,Nat.reduceAdd]at aw;generalize w5.setCell ⟨g,3,none⟩ (.pointer (some ⟨gd,0,none⟩))=w6 at *;have ca:Coder w6 lo w3 gc ls:=(cg.out.keep (fun b h1 h2=>M.out.block b (.inr ⟨h1,h2⟩))).keep (fun b h1 h2=>G.block b nj);have bx:Coder w6 ar w5 gd lf:=b9.out.keep (fun b h1 h2=>G.block b nj);have a6:Kept (fun x=>x<g) w2 w6:=a1.out.trans (Kept.trans ⟨M.out.os,M.out.tape,M.out.output,M.out.size,fun b h=>M.out.block b (.inl h)⟩ ⟨G.os,G.tape,G.output,G.size,fun b h=>G.block b nj⟩);have cf:Hid (Below w w w6):=bO.out.trans (a6.below (fun b h=>by omega));obtain⟨K2,am⟩:∃K2:Nat->Prop,K2=fun x=>(x<g∨lo<=x/\x<w3.heap.size)∨ar<=x/\x<w5.heap.size:=⟨_,rfl⟩;rw[<-am]at aw;have cv:∀x,x<w.heap.size->K2 x:=fun x h=>by rw[am];exact .inl (.inl nj)
  have cw:∀x,lo<=x->x<w3.heap.size->K2 x:=fun x h h'=>by rw[am];exact .inl (.inr ⟨h,h'⟩)
  have bC:∀x,ar<=x->x<w5.heap.size->K2 x:=fun x h h'=>by rw[am];exact .inr ⟨h,h'⟩
  have cl:=hid cv;have aj:=hid cw;have bh:=hid bC;have cu:=hid ca;have cL:=hid bx;have bc:=hid aw;generalize w3.heap.size=B1 at *;generalize w5.heap.size=B2 at *;clear am cv cw bC ca bx aw a6 G cg b9 a1 M b8 bO d3 f3;rw[cC.out.symm]at bc;go_wp2_with fail;go_loopw [38] (fun i wr=>∃ (k:Nat) (v:Value),k<=n/\i= .int .i64 k/\Hid (Wr K2 wr w g 299 [.pointer (some ⟨gc,0,none⟩), .pointer (some ⟨gd,0,none⟩)] (hd++(ts.take k).flatMap (Ci ls lf)) v)/\Hid (Kept K2 w6 wr)) (fun i _=>n-(intOf i).toNat)
  case atStart=>exact⟨0,v5,nj,rfl,by simpa using bc,Kept.refl _ _⟩
  case round=>
   clear bc;obtain⟨k,v6,hk,rfl,HW,HK⟩:=hrel;have c3:=HK.out.size;by_cases ax:k<n
   ·obtain⟨ob,bi,rfl,cc,z⟩:=HA.out nj;have aq:k<ts.length:=(by rw[HN.out];exact ax);have bd:=FM aq;have N:(World.heap wr)[ob]? =w.heap[ob]? :=(HK.out.block ob (cl.out ob cc)).trans (cf.out.block ob cc);have e0:=z k 0 ax nj;have e1:=z k 1 ax nj;have e2:=z k 2 ax nj;simp only[Hy,List.getD_eq_getElem?_getD,List.getElem?_eq_getElem aq,Option.getD_some,Nat.add_zero,<-Nat.add_assoc]at e0 e1 e2;have c0:=(World.cell?_of_block (a:=⟨ob,bi+k*3,none⟩) N).trans e0;have c1:=(World.cell?_of_block (a:=⟨ob,bi+k*3+1,none⟩) N).trans e1;have c2:=(World.cell?_of_block (a:=⟨ob,bi+k*3+2,none⟩) N).trans e2;have a3:Eg (ts.take k)=true:=(by have h:=cy.out;unfold Eg at h ⊢;rw[GE]at h ⊢;exact fun t ht=>h t (BX ht));have a0:=bp.out k a3;rw[AY]at a0;have cr:=cW (ls:=ls) (lf:=lf) aq;obtain⟨hm,cm,ce⟩:=av.out _ bd;have b1:=b6.out _ bd;have C3:=fun wx (h:Below wr wr wx)=>eD K2 wx g w gc gd lo B1 ar B2 ls lf (hd++(ts.take k).flatMap (Ci ls lf)) v6 ts[k] b1 hm az.out ((cu.out.kept HK.out aj.out).keep (fun b h1 h2=>h.block b (HW.out.kK b (aj.out b h1 h2)))) aj.out cx.out ((cL.out.kept HK.out bh.out).keep (fun b h1 h2=>h.block b (HW.out.kK b (bh.out b h1 h2)))) bh.out cm ce pf (HW.out.step h);rw[AE,<-cr]at C3;generalize ts[k]=tk at *;obtain⟨t1,t2,t3⟩:=tk;simp only[Tk.val_mk]at C3 c0 c1 c2;unfold TG at C3;have C3:=hid C3;have cH:=hid HW.out.kK;have x0:(0:Int)<=(k:Int):=nj;have x1:(k:Int)<(n:Int):=nj;clear z aq bd N e0 e1 e2 a3 a0 cr hm cm ce b1 HW;go_wp2_with fail;refine(C3.out _ (aZ (Ae _ _))).mono ?_;rintro e w7 ⟨rfl,v7,b5,cd⟩;have cE:=hid b5;have cF:Hid (Kept K2 w6 w7):=(HK.out.alloc cH.out _).trans cd;clear b5 cd C3 c0 c1 c2;go_wp2_with fail;go_roundw
    case measure=>exact jq
    case rel=>go_light;exact⟨k+1,v7,nj,jr,cE.out,cF.out⟩
   ·obtain rfl:k=n:=by omega
    have ci:ts.take k=ts:=Cf py;rw[ci]at HW;have cq:=cB.out;rw[HN.out]at cq;have C2:=hid (MF K2 wr.drew lo B1 gc ls g w 299 [.pointer (some ⟨gc,0,none⟩), .pointer (some ⟨gd,0,none⟩)] v6 (hd++ts.flatMap (Ci ls lf)) 256 nj az.out (cu.out.kept HK.out aj.out).drew aj.out cj.out pf HW.out.drew)
    change Hid (Calls _ _ _ _ (fun e w'=>_/\∃v',Wr K2 w' _ g _ _ (hd++ts.flatMap (Ci ls lf)++word ls 256) v'/\_))at C2
    rw[AE]at C2;have N:(bytesOf (hd++(ts.flatMap (Ci ls lf)++word ls 256))).length<=100000:=(by rw[bytesOf_length,Ag,Ag];omega);obtain⟨L,j⟩:=ii (hd++(ts.flatMap (Ci ls lf)++word ls 256));rw[<-j]at C2 N;have bk:=hid j;clear j;have d0:=HW.out.blk.cell 2;simp at d0;clear ci cq HW;go_upto_region 14 with fail;go_region_held3 (fun wx=>wx.cell? ⟨g,2,none⟩=some (.pointer (some ⟨gc,0,none⟩))) (first|exact d0|exact k0) (first|(go_at_call 227;(with_reducible refine C2.out.mono ?_);rintro e w' ⟨rfl,v2,y,Z⟩;have k0:w'.cell? ⟨g,2,none⟩=some (.pointer (some ⟨gc,0,none⟩)):=y.blk.cell 2));obtain⟨A2,c2,rfl⟩:=bZ y.own;obtain⟨bg,b3,ah⟩:=y.rowOf;have bq:=y.blk.ia 0;have a9:Kept K2 w6 w':=HK.out.trans ((Kept.refl _ _).drew.trans Z);have zk:=a9.size;have C4:=hid (Wa w' g A2 _ c2 (bytesOf L) bg nj ah bq b3);have ag:=hid a9;have c7:=hid bg;clear y Z a9 bg b3 ah bq N C2;go_wp2_with fail;refine C4.out.mono ?_;rintro e w8 ⟨v8,rfl,bf,cG⟩;go_wp2_with fail;go_ret2;refine⟨v8,rfl,?_,?_⟩
    ·rw[<-bk.out];have bf:w8.ownsRow w' 5 1 v8 (bytesOf L).length (dZ .u8 (bytesOf L)):=bf;exact kZ bf nj
    ·exact cf.out.trans ((ag.out.below cl.out).trans (cG.mono nj))
 ·have:=cy.out;rw[h]at this;cases this
theorem VY(w:World)(A:Option Addr)(n c:Nat)(ts:List Tk)(hn:ts.length=n)(hN:n<=16000)(h:∀t∈ts,0<=t.lit/\t.lit<=255)(ha:Row w w A n 3 (Hy ts)):
 Calls prog 166 #[.slice A n c] w (IK ts w):=by
 cases hok:Eg ts
 ·exact aO w A n c ts hn nj h ha hok
 ·exact YU w A n c ts hn hN h ha hok
end Go.Proofs.YtfgdoknipbpfhaaGreatDoor
