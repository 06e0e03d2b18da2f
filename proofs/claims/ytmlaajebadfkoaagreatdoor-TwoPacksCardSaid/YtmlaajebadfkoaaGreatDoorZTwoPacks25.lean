/- Plain: the bits that toks.Write puts for tokens, and that each symbol  -/
import Derived.Test.YtmlaajebadfkoaaGreatDoorZTwoPacks21
import Derived.Test.YtmlaajebadfkoaaGreatDoorZTwoPacks24
import Derived.Test.YtmlaajebadfkoaaGreatDoorZTwoPacks11
import Derived.Test.YtmlaajebadfkoaaGreatDoorZTwoPacks22
import Derived.Test.YtmlaajebadfkoaaGreatDoorZTwoPacks18
namespace Go.Proofs.YtmlaajebadfkoaaGreatDoor end Go.Proofs.YtmlaajebadfkoaaGreatDoor open Go.Proofs.YtmlaajebadfkoaaGreatDoor
open Go.Lib (hid)
set_option maxRecDepth 100000
namespace Go.Proofs.YtmlaajebadfkoaaGreatDoor.TW
open Canon Huff Lens
open Go.Proofs.YtmlaajebadfkoaaGreatDoor.Toks (Tk Pc wZ sdZ dcZ bump obZ udZ jcZ lg pw Within)
theorem nhZ{ks:List Nat}(hn:ks.length<=300):pcZ ks 15=0:=by
 unfold pcZ
 rw[if_neg (by omega),if_neg]
 have h:=lhZ (kOf ks) ks.length
 show ¬2 ^ (15:Int).toNat<(pZ (kOf ks) ks.length).length
 have:(2:Nat) ^ (15:Int).toNat=32768:=by decide
 omega
theorem xqZ{ks:List Nat}(hn:ks.length<=300){s:Nat}(hs:s<ks.length)(h0:ks.getD s 0≠0):(kcZ ks 15).getD s 0≠0:=by
 have hE:=nhZ hn
 obtain⟨hn2,L,hL,h1,h2,h3,e⟩:=ok_parts hE
 rw[e,rhZb hs]
 have hm:s∈pZ (kOf ks) ks.length:=qfZ.2 ⟨hs,h0⟩
 have:=(boZ h1 h3 hm).1
 omega
theorem vwZ(l:List Int)(i j:Nat):l.getD j 0<=(bump l i).getD j 0:=by
 unfold bump
 simp only[List.getD_eq_getElem?_getD,List.getElem?_set]
 split
 ·rename_i h
  subst h
  split
  ·simp;omega
  ·rename_i h2
   rw[List.getElem?_eq_none (by omega)]
   simp
 ·omega
theorem wwZ{l:List Int}{i:Nat}(h:i<l.length):(bump l i).getD i 0=l.getD i 0+1:=by
 unfold bump
 simp only[List.getD_eq_getElem?_getD,List.getElem?_set]
 rw[if_pos trivial,if_pos h]
 rfl
theorem rfZb(st:List Int×List Int)(t:Tk)(j:Nat):st.1.getD j 0<=(obZ st t).1.getD j 0/\st.2.getD j 0<=(obZ st t).2.getD j 0:=by
 unfold obZ
 refine⟨vwZ _ _ _,?_⟩
 simp only
 split
 ·omega
 ·exact vwZ _ _ _
theorem sfZb(ts:List Tk):∀ (st:List Int×List Int) (j:Nat),st.1.getD j 0<=(ts.foldl obZ st).1.getD j 0/\st.2.getD j 0<=(ts.foldl obZ st).2.getD j 0:=by
 induction ts with
 |nil=>intro st j;exact⟨by simp,by simp⟩
 |cons t ts ih=>
  intro st j
  have h:=ih (obZ st t) j
  have h2:=rfZb st t j
  rw[List.foldl_cons]
  exact⟨by omega,by omega⟩
theorem xwZ{t:Tk}:∀ (ts:List Tk) (st:List Int×List Int),t∈ts->
 ((wZ t).sym.toNat<st.1.length->st.1.getD (wZ t).sym.toNat 0+1<=(ts.foldl obZ st).1.getD (wZ t).sym.toNat 0)/\
 (t.len≠0->(wZ t).dist.toNat<st.2.length->st.2.getD (wZ t).dist.toNat 0+1<=(ts.foldl obZ st).2.getD (wZ t).dist.toNat 0)
 | [],_,h=>by cases h
 |x :: ts,st,h=>by
  rw[List.foldl_cons]
  have hl:=Toks.vnZ st x
  have hs:=rfZb st x
  rcases List.mem_cons.1 h with rfl|h
  ·refine⟨fun hS=> ?_,fun h0 hD=> ?_⟩
   ·have h1:=(sfZb ts (obZ st t) (wZ t).sym.toNat).1
    have h2:(obZ st t).1.getD (wZ t).sym.toNat 0=st.1.getD (wZ t).sym.toNat 0+1:=wwZ hS
    omega
   ·have h1:=(sfZb ts (obZ st t) (wZ t).dist.toNat).2
    have h2:(obZ st t).2.getD (wZ t).dist.toNat 0=st.2.getD (wZ t).dist.toNat 0+1:=by
     unfold obZ
     simp only
     rw[if_neg h0]
     exact wwZ hD
    omega
  ·have ih:=xwZ ts (obZ st x) h
   refine⟨fun hS=> ?_,fun h0 hD=> ?_⟩
   ·have h1:=ih.1 (by rw[hl.1];exact hS)
    have h2:=(hs (wZ t).sym.toNat).1
    omega
   ·have h1:=ih.2 h0 (by rw[hl.2];exact hD)
    have h2:=(hs (wZ t).dist.toNat).2
    omega
theorem yqZ{t:Tk}(hl:t.len≠0)(hm:dcZ t.lit t.len t.dist=true):
 ∃b L D F:Nat,wZ t=⟨((257+b:Nat):Int),L,D,F⟩/\b<8/\D<12/\L<2 ^ b/\F<2 ^ D:=by
 have hb:t.lit=0/\3<=t.len/\t.len<=257/\1<=t.dist/\t.dist<=4095:=by
  unfold dcZ at hm;rw[if_neg hl]at hm;exact of_decide_eq_true hm
 have a1:=Toks.ggZ (t.len-2)
 have a2:=Toks.toZ (t.len-2) 8 (by omega) (by omega) (by rw[Toks.pw_8];omega)
 have a3:=Toks.soZ (t.len-2) (by omega)
 have a4:=Toks.mtZ (t.len-2) (by omega)
 have b1:=Toks.ggZ t.dist
 have b2:=Toks.toZ t.dist 12 (by omega) (by omega) (by rw[Toks.dpZb];omega)
 have b3:=Toks.soZ t.dist (by omega)
 have b4:=Toks.mtZ t.dist (by omega)
 refine⟨(lg (t.len-2)).toNat,(t.len-2-pw (lg (t.len-2))).toNat,(lg t.dist).toNat,(t.dist-pw (lg t.dist)).toNat,?_,by omega,by omega,?_,?_⟩
 ·unfold wZ
  rw[if_pos hm,if_neg hl]
  congr 1<;>omega
 ·have:pw (lg (t.len-2))=((2 ^ (lg (t.len-2)).toNat:Nat):Int):=rfl
  omega
 ·have:pw (lg t.dist)=((2 ^ (lg t.dist).toNat:Nat):Int):=rfl
  omega
theorem ryZ{t:Tk}(h0:0<=t.lit)(hl:t.len=0)(hm:dcZ t.lit t.len t.dist=true):wZ t=⟨((t.lit.toNat:Nat):Int),0,0,0⟩:=by
 unfold wZ
 rw[if_pos hm,if_pos hl,Int.toNat_of_nonneg h0]
def adZ(ls lf:List Nat)(t:Tk):List Bool:=
 word ls (wZ t).sym.toNat++if t.len=0 then []else
  msb (wZ t).len.toNat ((wZ t).sym.toNat-257) ((wZ t).sym.toNat-257)++(word lf (wZ t).dist.toNat++msb (wZ t).far.toNat (wZ t).dist.toNat (wZ t).dist.toNat)
def qpZ(l:List Int):List Nat:=l.map Int.toNat
theorem zgZ(l:List Int):(qpZ l).length=l.length:=by simp[qpZ]
theorem dnZ(l:List Int)(i:Nat):(qpZ l).getD i 0=(l.getD i 0).toNat:=by
 unfold qpZ
 rw[List.getD_eq_getElem?_getD,List.getD_eq_getElem?_getD,List.getElem?_map]
 cases l[i]? <;>rfl
def ksS(ts:List Tk):List Nat:=qpZ (Toks.symsOf ts)
def ksF(ts:List Tk):List Nat:=qpZ (Toks.lqZ ts)
theorem jdZ(ts:List Tk):(ksS ts).length=265:=by
 unfold ksS Toks.symsOf
 rw[zgZ,Toks.knZ,(Toks.tfZ ts).1]
theorem eeZ(ts:List Tk):(ksF ts).length=12:=by
 unfold ksF Toks.lqZ
 rw[zgZ,(Toks.tfZ ts).2]
def lsS(ts:List Tk):List Nat:=kcZ (ksS ts) 15
def lsF(ts:List Tk):List Nat:=kcZ (ksF ts) 15
theorem qvZ(ts:List Tk):(lsS ts).length=265:=by
 unfold lsS
 rw[pjZ (nhZ (by rw[jdZ];omega)),jdZ]
theorem rvZ(ts:List Tk):(lsF ts).length=12:=by
 unfold lsF
 rw[pjZ (nhZ (by rw[eeZ];omega)),eeZ]
theorem pkZb(ts:List Tk):okB (lsS ts)=true:=duZ (nhZ (by rw[jdZ];omega)) (by rw[jdZ];omega)
theorem qkZb(ts:List Tk):okB (lsF ts)=true:=duZ (nhZ (by rw[eeZ];omega)) (by rw[eeZ];omega)
theorem qnZb{ts:List Tk}{t:Tk}(h:t∈ts)(hs:(wZ t).sym.toNat<265):(lsS ts).getD (wZ t).sym.toNat 0≠0:=by
 have h1:=(xwZ ts (List.replicate 265 0,List.replicate 12 0) h).1 (by show _<(List.replicate 265 (0:Int)).length;rw[List.length_replicate];exact hs)
 have h2:=vwZ (udZ ts).1 256 (wZ t).sym.toNat
 refine xqZ (by rw[jdZ];omega) (by rw[jdZ];exact hs) ?_
 unfold ksS
 rw[dnZ]
 have h3:(List.replicate 265 (0:Int)).getD (wZ t).sym.toNat 0=0:=by
  simp only[List.getD_eq_getElem?_getD,List.getElem?_replicate]
  split<;>rfl
 change _<=(udZ ts).1.getD _ 0 at h1
 simp only[h3]at h1
 show(Toks.bump (udZ ts).1 256 |>.getD _ 0).toNat≠0
 omega
theorem tfZb(ts:List Tk):(lsS ts).getD 256 0≠0:=by
 have h2:(bump (udZ ts).1 256).getD 256 0=(udZ ts).1.getD 256 0+1:=wwZ (by rw[(Toks.tfZ ts).1];omega)
 have h1:=(Toks.ufZ ts).1 256
 refine xqZ (by rw[jdZ];omega) (by rw[jdZ];omega) ?_
 unfold ksS
 rw[dnZ]
 show(Toks.bump (udZ ts).1 256 |>.getD _ 0).toNat≠0
 omega
theorem rnZb{ts:List Tk}{t:Tk}(h:t∈ts)(h0:t.len≠0)(hs:(wZ t).dist.toNat<12):(lsF ts).getD (wZ t).dist.toNat 0≠0:=by
 have h1:=(xwZ ts (List.replicate 265 0,List.replicate 12 0) h).2 h0 (by show _<(List.replicate 12 (0:Int)).length;rw[List.length_replicate];exact hs)
 refine xqZ (by rw[eeZ];omega) (by rw[eeZ];exact hs) ?_
 unfold ksF
 rw[dnZ]
 have h3:(List.replicate 12 (0:Int)).getD (wZ t).dist.toNat 0=0:=by
  simp only[List.getD_eq_getElem?_getD,List.getElem?_replicate]
  split<;>rfl
 change _<=(udZ ts).2.getD _ 0 at h1
 simp only[h3]at h1
 show((udZ ts).2.getD _ 0).toNat≠0
 omega
def ukZ(ts:List Tk):List Bool:=cdZ (lsS ts)++cdZ (lsF ts)++(ts.flatMap (adZ (lsS ts) (lsF ts))++word (lsS ts) 256)
def rfZ(ts:List Tk):Int:=if 32768<ts.length then 6 else if jcZ ts=true then 0 else 7
def gfZ(ts:List Tk):List Nat:=if rfZ ts=0 then bytesOf (ukZ ts)else []
theorem wrGo_length(ls:List Nat):∀f i,(vfZ ls f i).length<=10*(ls.length-i)
 |0,i=>by simp[vfZ]
 |f+1,i=>by
  unfold vfZ
  by_cases hlt:i<ls.length
  ·rw[if_pos hlt]
   by_cases h0:ls.getD i 0=0
   ·have hx:ls[i]? =some 0:=by rw[List.getD_eq_getElem?_getD,List.getElem?_eq_getElem hlt]at h0;rw[List.getElem?_eq_getElem hlt];exact congrArg some h0
    have r1:1<=ddZ ls i 64:=by have:=emZ hx 63;show 1<=ddZ ls i (63+1);omega
    have rf:=ymZ ls 64 i (by omega)
    have ih:=wrGo_length ls f (i+ddZ ls i 64)
    rw[if_pos h0,List.length_append,List.length_append,uZ,uZ]
    omega
   ·have ih:=wrGo_length ls f (i+1)
    rw[if_neg h0,List.length_append,uZ]
    omega
  ·rw[if_neg hlt];simp
theorem iiZ(ls:List Nat):(cdZ ls).length<=10*ls.length:=wrGo_length ls ls.length 0
theorem wiZ{ls:List Nat}(h:∀x∈ls,x<=15)(s:Nat):ls.getD s 0<=15:=by
 rw[List.getD_eq_getElem?_getD]
 cases hx:ls[s]? with
 |none=>simp
 |some x=>simpa using h x (List.mem_of_getElem? hx)
theorem aeZb{ls lf:List Nat}(h:∀x∈ls,x<=15)(h':∀x∈lf,x<=15){t:Tk}(hm:dcZ t.lit t.len t.dist=true):(adZ ls lf t).length<=48:=by
 unfold adZ
 have h1:=wiZ h (wZ t).sym.toNat
 have h2:=wiZ h' (wZ t).dist.toNat
 by_cases h0:t.len=0
 ·rw[if_pos h0,List.append_nil,aeZ];omega
 ·obtain⟨b,L,D,F,e,hb,hD,hL,hF⟩:=yqZ h0 hm
  rw[if_neg h0,List.length_append,List.length_append,List.length_append,aeZ,aeZ,uZ,uZ]
  rw[e]at h1 h2 ⊢
  simp only[Int.toNat_natCast]at h1 h2 ⊢
  omega
theorem ciZ{ls lf:List Nat}(h:∀x∈ls,x<=15)(h':∀x∈lf,x<=15):∀ {ts:List Tk},jcZ ts=true->(ts.flatMap (adZ ls lf)).length<=48*ts.length
 | [],_=>by simp
 |t :: ts,hm=>by
  unfold jcZ at hm
  rw[List.all_cons,Bool.and_eq_true]at hm
  have h1:=aeZb h h' hm.1
  have h2:=ciZ h h' (ts:=ts) hm.2
  rw[List.flatMap_cons,List.length_append,List.length_cons]
  omega
theorem syZ{ls lf:List Nat}{ts:List Tk}{k:Nat}(h:k<ts.length):(ts.take (k+1)).flatMap (adZ ls lf)=(ts.take k).flatMap (adZ ls lf)++adZ ls lf ts[k]:=by
 rw[List.take_succ_eq_append_getElem h,List.flatMap_append]
 simp
end Go.Proofs.YtmlaajebadfkoaaGreatDoor.TW
namespace Go.Proofs.YtmlaajebadfkoaaGreatDoor.Huff
open Go.RowKit Mem Canon Own
theorem Wr.stepK{K L:Nat->Prop}{w w':World}{base g:Nat}{t:TypeId}{rest:List Value}{bs:List Bool}{v:Value}(h:Wr K w base g t rest bs v)(hb:Below w.heap.size w w')(hL:∀k,L k->K k∨w.heap.size<=k/\k<w'.heap.size):Wr L w' base g t rest bs v:=by
 have hv:∀x,v.ownBlock=some x->x<w.heap.size:=fun x hx=>(World.ownsRow.lt h.own x hx).2
 refine⟨h.blk.step hb,fZ h.own (fun x hx=>hb.block x (hv x hx)),h.ne,Nat.le_trans h.base hb.size,fun e=> ?_,fun x hx e=> ?_,fun k e=> ?_⟩
 ·rcases hL _ e with e|e
  ·exact h.kg e
  ·have:=h.blk.lt;omega
 ·rcases hL _ e with e|e
  ·exact h.kv x hx e
  ·have:=hv x hx;omega
 ·rcases hL _ e with e|e
  ·have:=h.kK k e;have:=hb.size;omega
  ·exact e.2
theorem Wr.weak{K L:Nat->Prop}{w:World}{base g:Nat}{t:TypeId}{rest:List Value}{bs:List Bool}{v:Value}(h:Wr K w base g t rest bs v)(hl:∀k,L k->K k):Wr L w base g t rest bs v:=
 ⟨h.blk,h.own,h.ne,h.base,fun e=>h.kg (hl _ e),fun x hx e=>h.kv x hx (hl _ e),fun k e=>h.kK k (hl k e)⟩
theorem vkZ{K L:Nat->Prop}{a w:World}(h:Kept K a w)(hl:∀k,L k->K k):Kept L a w:=⟨h.os,h.tape,h.output,h.size,fun k e=>h.block k (hl k e)⟩
theorem guZ{w:World}{lo B n s:Nat}{A:Option Addr}{f:Nat->Nat->Value}(h:Row w B A n s f)(hnew:0<n->∀p,A=some p->lo<=p.block):RowIn w lo B A n s f:=fun hn=>by
 obtain⟨b,off,e,hb,hc⟩:=h hn
 exact⟨b,off,e,⟨hnew hn _ e,hb⟩,hc⟩
def svZ(K:Nat->Prop)(w:World)(base g:Nat)(t:TypeId)(rest:List Value)(bs:List Bool)(ls:List Nat)(e:Ending)(w':World):Prop:=
 ∃gc lo v',e= .returned (.pointer (some ⟨gc,0,none⟩))/\w.heap.size<=lo/\Coder w' lo w'.heap.size gc ls/\Wr (fun x=>K x∨lo<=x/\x<w'.heap.size) w' base g t rest bs v'/\Kept K w w'
theorem tvZ(K:Nat->Prop)(w:World)(g base:Nat)(t:TypeId)(rest:List Value)(v:Value)(bs:List Bool)(A:Option Addr)(n c:Nat)(ks:List Nat)(hn:ks.length=n)(hN:n<=300)(h32:∀x∈ks,x<4294967296)
 (ha:Row w w.heap.size A n 1 (rZ .u32 ks))(hle:bs.length+10*n<=5000000)(hW:Wr K w base g t rest bs v):
 Calls Tryz.prog 237 #[.pointer (some ⟨g,0,none⟩), .slice A n c] w (svZ K w base g t rest (bs++cdZ (Lens.kcZ ks 15)) (Lens.kcZ ks 15)):=by
 have C1:=Lens.pnZb w A n c ks 15 hn (by omega) (by omega) (by omega) h32 ha
 unfold Lens.odZ at C1
 have hE:=TW.nhZ (ks:=ks) (by omega)
 have hok:=Lens.duZ hE (by omega)
 have hlen:=Lens.pjZ hE
 rw[hE,hlen,hn]at C1
 rw[hn]at hlen
 have HLE:=hid hle
 have HW:=hid hW
 generalize Lens.kcZ ks 15=ls at *
 have HL:=hid hlen
 have HOK:=hid hok
 have C1:=hid C1
 clear hn h32 ha hE hok hlen hle hW
 go_enter Tryz.func237,Tryz.ntmps237
 go_wp2_with fail
 refine C1.out.mono ?_
 rintro e w1 ⟨A1,c1,rfl,hrow,hwf,hb1,hnew⟩
 have z1:=hb1.size
 have hW1:=HW.out.stepK (L:=fun x=>K x∨w.heap.size<=x/\x<w1.heap.size) hb1 (fun k h=>h)
 have hrin:=guZ hrow hnew
 have C2:=hid (jhZb (fun x=>K x∨w.heap.size<=x/\x<w1.heap.size) w1 g base t rest v bs A1 n c1 ls HL.out (by omega) HOK.out (fun h0 p hp=>by
  obtain⟨b,off,e,hb,_⟩:=hrin h0
  rw[e]at hp
  cases hp
  exact .inr hb) hrow HLE.out hW1)
 have HRIN:=hid hrin
 have HWF:=hid hwf
 have HB1:=hid hb1
 clear hrow hnew hb1 hW1 hrin hwf C1
 go_wp2_with fail
 refine C2.out.mono ?_
 rintro e w2 ⟨rfl,v2,hW2,hk2⟩
 have z2:=hk2.size
 have hrin2:RowIn w2 w.heap.size w1.heap.size A1 n 1 (rZ .u8 ls):=HRIN.out.keep (fun p h1 h2=>World.cell?_of_block (hk2.block p.block (.inr ⟨h1,h2⟩)))
 have C3:=vpZb w2 A1 n c1 ls HL.out HOK.out HWF.out.1 (hrin2.row.mono z2)
 unfold ifZb at C3
 have C3:=hid C3
 have HW2:=hid hW2
 have HK2:=hid hk2
 clear hW2 hk2 hrin2 C2 HRIN HWF
 go_wp2_with fail
 refine C3.out.mono ?_
 rintro e w3 ⟨gc,rfl,hC,hb3⟩
 have HC:=hid hC
 have HB3:=hid hb3
 clear hC hb3 C3
 go_wp2_with fail
 go_ret
 refine⟨gc,w2.heap.size,v2,rfl,by omega,HC.out,?_,?_⟩
 ·refine HW2.out.stepK HB3.out (fun k h=> ?_)
  rcases h with h|h
  ·exact .inl (.inl h)
  ·exact .inr h
 ·have hK1:Kept K w w1:=Kept.of_below HB1.out fun k h=>HW.out.kK k h
  exact(hK1.trans (vkZ HK2.out fun k h=> .inl h)).trans (Kept.of_below HB3.out fun k h=>by
   have:=HW2.out.kK k (.inl h)
   exact this)
end Go.Proofs.YtmlaajebadfkoaaGreatDoor.Huff
namespace Go.Proofs.YtmlaajebadfkoaaGreatDoor.Huff
open Go.RowKit Mem Canon Own
open Go.Proofs.YtmlaajebadfkoaaGreatDoor.Toks (Tk Pc wZ sdZ dcZ zoZ)
theorem lgZ{ls:List Nat}{s:Nat}(h:ls.getD s 0≠0):afZ ls (s:Int)≠0:=by
 unfold afZ
 rw[if_neg (by omega),Int.toNat_natCast]
 exact h
def rkZb(K:Nat->Prop)(w:World)(base g:Nat)(t:TypeId)(rest:List Value)(bs:List Bool)(e:Ending)(w':World):Prop:=
 e= .returned (.tuple #[])/\∃v',Wr K w' base g t rest bs v'/\Kept K w w'
set_option maxHeartbeats 1000000 in
theorem whZb(K:Nat->Prop)(w:World)(g base gs gf l1 B1 l2 B2:Nat)(ls lf:List Nat)(bs:List Bool)(v:Value)(tk:Tk)(hlit:0<=tk.lit/\tk.lit<=255)(hm:dcZ tk.lit tk.len tk.dist=true)
 (hok:okB ls=true)(hCs:Coder w l1 B1 gs ls)(hKs:∀k,l1<=k->k<B1->K k)(hokf:okB lf=true)(hCf:Coder w l2 B2 gf lf)(hKf:∀k,l2<=k->k<B2->K k)
 (h1:ls.getD (wZ tk).sym.toNat 0≠0)(h2:tk.len≠0->lf.getD (wZ tk).dist.toNat 0≠0)(hle:bs.length+60<=5000000)
 (hW:Wr K w base g 294 [.pointer (some ⟨gs,0,none⟩), .pointer (some ⟨gf,0,none⟩)] bs v):
 Calls Tryz.prog 238 #[.pointer (some ⟨g,0,none⟩),tk.val] w (rkZb K w base g 294 [.pointer (some ⟨gs,0,none⟩), .pointer (some ⟨gf,0,none⟩)] (bs++TW.adZ ls lf tk)):=by
 have C1:=fun w=>zoZ tk w hlit.1 hlit.2
 have hsE:sdZ tk=0:=by unfold sdZ;rw[if_pos hm]
 have hcs:∀x,K x->x<w.heap.size:=hW.kK
 rw[hsE]at C1
 by_cases h0:tk.len=0
 ·have hp:=TW.ryZ hlit.1 h0 hm
  have hb:TW.adZ ls lf tk=word ls tk.lit.toNat:=by unfold TW.adZ;rw[if_pos h0,List.append_nil,hp,Int.toNat_natCast]
  rw[hp]at C1 h1
  rw[hb]
  rw[Int.toNat_natCast]at h1
  have hS:tk.lit.toNat<256:=by omega
  generalize tk.lit.toNat=S at *
  rw[Toks.Pc.val_mk]at C1
  obtain⟨t1,t2,t3⟩:=tk
  rw[Toks.Tk.val_mk]at *
  have C1:=hid C1
  have HW:=hid hW
  have HCS:=hid hCs
  have HKS:=hid hKs
  have HOK:=hid hok
  have H1:=hid (lgZ h1)
  have HKK:=hid hcs
  have g1:decide ((S:Int)<256)=true:=by simp;omega
  have g2:decide (S<256)=true:=by simpa using hS
  clear hlit hm hok hCs hKs hokf hCf hKf h1 h2 hW hsE h0 hp hb hcs
  go_enter Tryz.func238,Tryz.ntmps238
  go_wp2_with fail
  refine(C1.out _).mono ?_
  rintro e w1 ⟨rfl,hb1⟩
  have z1:=hb1.size
  simp at z1
  go_upto_region 2 with fail
  have hbel:Below w.heap.size w (w1.alloc (.cells #[.int .i64 S, .int .i64 0, .int .i64 0, .int .i64 0] 239)):=by(repeat(first|(with_reducible first|exact Below.refl _ _|assumption|refine Below.drew ?_|refine below_drewN ?_ _|refine aZ ?_|refine cZ (by assumption) ?_)|((with_reducible first|refine jZ ?_ ?_|refine eZ ?_ ?_|refine gZ (by assumption) ?_ ?_);(focus(first|(simp;done)|(simp;omega)|omega|(simp at *;omega))))))
  have blkp:Blk (w1.alloc (.cells #[.int .i64 S, .int .i64 0, .int .i64 0, .int .i64 0] 239)) w1.heap.size 239 #[.int .i64 S, .int .i64 0, .int .i64 0, .int .i64 0]:=Blk.made _ _ _
  generalize w1.alloc (.cells #[.int .i64 S, .int .i64 0, .int .i64 0, .int .i64 0] 239)=w2 at *
  have z2:=blkp.lt
  have hW2:=HW.out.stepK (L:=fun x=>K x∨w.heap.size<=x/\x<w2.heap.size) hbel (fun k h=>h)
  have hC2:=HCS.out.keep (w':=w2) (fun b h1 h2=>hbel.block b (HKK.out b (HKS.out b h1 h2)))
  have C2:=hid (fpZ (fun x=>K x∨w.heap.size<=x/\x<w2.heap.size) w2.drew l1 B1 gs ls g base 294 [.pointer (some ⟨gs,0,none⟩), .pointer (some ⟨gf,0,none⟩)] v bs (S:Int) (by omega) HOK.out hC2.drew (fun k h1 h2=> .inl (HKS.out k h1 h2)) H1.out (by omega) hW2.drew)
  rw[Int.toNat_natCast]at C2
  have d0:=hW2.blk.cell 2
  have p0:=blkp.cell 0
  simp at d0 p0
  generalize w1.heap.size=pb at *
  have KP:Hid (K pb∨w.heap.size<=pb/\pb<w2.heap.size):= .inr ⟨by omega,z2⟩
  have HBEL:=hid hbel
  clear hbel blkp hW2 hC2 hb1 C1 HW HCS
  go_region_held3 (fun wx=>wx.cell? ⟨g,2,none⟩=some (.pointer (some ⟨gs,0,none⟩))/\wx.cell? ⟨pb,0,none⟩=some (.int .i64 S)) (first|exact⟨d0,p0⟩|exact⟨k0,k1⟩) (first|(go_at_call 239;(with_reducible refine C2.out.mono ?_);rintro e w' ⟨rfl,v2,hW3,hk3⟩;have k0:w'.cell? ⟨g,2,none⟩=some (.pointer (some ⟨gs,0,none⟩)):=hW3.blk.cell 2;have k1:w'.cell? ⟨pb,0,none⟩=some (.int .i64 S):=(World.cell?_of_block (a:=⟨pb,0,none⟩) (hk3.block pb KP.out)).trans p0))
  have HW3:=hid hW3
  have HK3:=hid hk3
  clear hW3 hk3 C2
  go_wp2_with fail
  refine bodyPost_end (results_none rfl _ _ _) rfl ?_
  exact⟨rfl,v2,HW3.out.weak (fun k h=> .inl h),(Kept.of_below HBEL.out HKK.out).drew.trans (vkZ HK3.out (fun k h=> .inl h))⟩
 ·obtain⟨b,L,D,F,hp,hb8,hD12,hL,hF⟩:=TW.yqZ h0 hm
  have hb:TW.adZ ls lf tk=word ls (257+b)++(msb L b b++(word lf D++msb F D D)):=by
   unfold TW.adZ
   rw[if_neg h0,hp]
   simp only[Int.toNat_natCast,Nat.add_sub_cancel_left]
  replace h2:=h2 h0
  rw[hp]at C1 h1 h2
  rw[hb,<-List.append_assoc,<-List.append_assoc,<-List.append_assoc]
  simp only[Int.toNat_natCast]at h1 h2
  obtain⟨_,hsm,_⟩:=ok_parts hok
  obtain⟨_,hsmf,_⟩:=ok_parts hokf
  have hl1:(word ls (257+b)).length<=15:=by rw[aeZ];exact TW.wiZ hsm _
  have hl2:(word lf D).length<=15:=by rw[aeZ];exact TW.wiZ hsmf _
  obtain⟨S,hS⟩:∃S,S=257+b:=⟨_,rfl⟩
  rw[<-hS]at C1 h1 hl1
  rw[<-hS]
  have x1:IntKind.i64.wrap ((S:Int)-257)=(b:Int):=by rw[IntKind.wrap_i64];omega
  have x2:IntKind.u64.wrap (L:Int)=(L:Int):=by
   have:2 ^ b<=2 ^ 8:=Nat.pow_le_pow_right (by omega) (by omega)
   rw[IntKind.wrap_u64];omega
  have x3:IntKind.u64.wrap (F:Int)=(F:Int):=by
   have:2 ^ D<=2 ^ 12:=Nat.pow_le_pow_right (by omega) (by omega)
   rw[IntKind.wrap_u64];omega
  rw[Toks.Pc.val_mk]at C1
  obtain⟨t1,t2,t3⟩:=tk
  rw[Toks.Tk.val_mk]at *
  have C1:=hid C1
  have HW:=hid hW
  have HCS:=hid hCs
  have HKS:=hid hKs
  have HOK:=hid hok
  have HCF:=hid hCf
  have HKF:=hid hKf
  have HOKF:=hid hokf
  have H1:=hid (lgZ h1)
  have H2:=hid (lgZ h2)
  have HKK:=hid hcs
  have HL:=hid hL
  have HF:=hid hF
  have g1:decide ((S:Int)<256)=false:=by simp;omega
  have g2:decide (S<256)=false:=by simp;omega
  have hSb:S<=264:=by omega
  clear hlit hm hok hCs hKs hokf hCf hKf h1 h2 hW hsE h0 hp hb hcs hL hF hS hsm hsmf
  go_enter Tryz.func238,Tryz.ntmps238
  go_wp2_with fail
  refine(C1.out _).mono ?_
  rintro e w1 ⟨rfl,hb1⟩
  have z1:=hb1.size
  simp at z1
  go_upto_region 2 with fail
  have hbel:Below w.heap.size w (w1.alloc (.cells #[.int .i64 S, .int .i64 L, .int .i64 D, .int .i64 F] 239)):=by(repeat(first|(with_reducible first|exact Below.refl _ _|assumption|refine Below.drew ?_|refine below_drewN ?_ _|refine aZ ?_|refine cZ (by assumption) ?_)|((with_reducible first|refine jZ ?_ ?_|refine eZ ?_ ?_|refine gZ (by assumption) ?_ ?_);(focus(first|(simp;done)|(simp;omega)|omega|(simp at *;omega))))))
  have blkp:Blk (w1.alloc (.cells #[.int .i64 S, .int .i64 L, .int .i64 D, .int .i64 F] 239)) w1.heap.size 239 #[.int .i64 S, .int .i64 L, .int .i64 D, .int .i64 F]:=Blk.made _ _ _
  generalize w1.alloc (.cells #[.int .i64 S, .int .i64 L, .int .i64 D, .int .i64 F] 239)=w2 at *
  have z2:=blkp.lt
  obtain⟨M,hM⟩:∃M:Nat->Prop,M=fun x=>K x∨w.heap.size<=x/\x<w2.heap.size:=⟨_,rfl⟩
  have hW2:=HW.out.stepK (L:=M) hbel (fun k h=>by rw[hM]at h;exact h)
  have hC2:Coder w2 l1 B1 gs ls:=HCS.out.keep (fun b h1 h2=>hbel.block b (HKK.out b (HKS.out b h1 h2)))
  have hF2:Coder w2 l2 B2 gf lf:=HCF.out.keep (fun b h1 h2=>hbel.block b (HKK.out b (HKF.out b h1 h2)))
  have hMs:∀k,l1<=k->k<B1->M k:=fun k h1 h2=>by rw[hM];exact .inl (HKS.out k h1 h2)
  have hMf:∀k,l2<=k->k<B2->M k:=fun k h1 h2=>by rw[hM];exact .inl (HKF.out k h1 h2)
  have hMK:∀k,K k->M k:=fun k h=>by rw[hM];exact .inl h
  have C2:=hid (fpZ M w2.drew l1 B1 gs ls g base 294 [.pointer (some ⟨gs,0,none⟩), .pointer (some ⟨gf,0,none⟩)] v bs (S:Int) (by omega) HOK.out hC2.drew hMs H1.out (by omega) hW2.drew)
  rw[Int.toNat_natCast]at C2
  have C4:=fun wx vx h=>put_any M wx g base 294 [.pointer (some ⟨gs,0,none⟩), .pointer (some ⟨gf,0,none⟩)] vx (bs++word ls S) L b HL.out (by omega) (by rw[List.length_append];omega) h
  have C5:=fun wx vx hc h=>fpZ M wx l2 B2 gf lf g base 294 [.pointer (some ⟨gs,0,none⟩), .pointer (some ⟨gf,0,none⟩)] vx (bs++word ls S++msb L b b) (D:Int) (by omega) HOKF.out hc hMf H2.out (by simp only[List.length_append,uZ];omega) h
  have C6:=fun wx vx h=>put_any M wx g base 294 [.pointer (some ⟨gs,0,none⟩), .pointer (some ⟨gf,0,none⟩)] vx (bs++word ls S++msb L b b++word lf D) F D HF.out (by omega) (by simp only[List.length_append,uZ];omega) h
  rw[<-x1,<-x2]at C4
  rw[<-x3]at C6
  rw[Int.toNat_natCast]at C5
  have C4:=hid C4
  have C5:=hid C5
  have C6:=hid C6
  have d0:=hW2.blk.cell 2
  have p0:=blkp.cell 0
  have p1:=blkp.cell 1
  have p2:=blkp.cell 2
  have p3:=blkp.cell 3
  simp at d0 p0 p1 p2 p3
  generalize w1.heap.size=pb at *
  have KP:Hid (M pb):=by show M pb;rw[hM];exact .inr ⟨by omega,z2⟩
  have HBEL:=hid hbel
  have HMS:=hid hMs
  have HMF:=hid hMf
  have HMK:=hid hMK
  have HF2:=hid hF2
  clear hbel blkp hW2 hC2 hb1 C1 HW HCS hM hMs hMf hMK hF2 x1 x2 x3
  go_region_held3 (fun wx=>wx.cell? ⟨g,2,none⟩=some (.pointer (some ⟨gs,0,none⟩))/\wx.cell? ⟨pb,0,none⟩=some (.int .i64 S)) (first|exact⟨d0,p0⟩|exact⟨k0,k1⟩) (first|(go_at_call 239;(with_reducible refine C2.out.mono ?_);rintro e w' ⟨rfl,v2,hW3,hk3⟩;have k0:w'.cell? ⟨g,2,none⟩=some (.pointer (some ⟨gs,0,none⟩)):=hW3.blk.cell 2;have k1:w'.cell? ⟨pb,0,none⟩=some (.int .i64 S):=(World.cell?_of_block (a:=⟨pb,0,none⟩) (hk3.block pb KP.out)).trans p0))
  have q1:w'.cell? ⟨pb,1,none⟩=some (.int .i64 L):=(World.cell?_of_block (a:=⟨pb,1,none⟩) (hk3.block pb KP.out)).trans p1
  have q2:w'.cell? ⟨pb,2,none⟩=some (.int .i64 D):=(World.cell?_of_block (a:=⟨pb,2,none⟩) (hk3.block pb KP.out)).trans p2
  have q3:w'.cell? ⟨pb,3,none⟩=some (.int .i64 F):=(World.cell?_of_block (a:=⟨pb,3,none⟩) (hk3.block pb KP.out)).trans p3
  have C4:=hid (C4.out w'.drew v2 hW3.drew)
  have HF3:Hid (Coder w' l2 B2 gf lf):=HF2.out.drew.kept hk3 HMF.out
  have HK3:Hid (Kept M w2 w'):=(Kept.refl M w2).drew.trans hk3
  clear hW3 hk3 C2 HF2 d0 p0 p1 p2 p3
  go_upto_region 4 with fail
  go_region_held3 (fun wx=>wx.cell? ⟨pb,0,none⟩=some (.int .i64 S)/\wx.cell? ⟨pb,1,none⟩=some (.int .i64 L)) (first|exact⟨k1,q1⟩|exact⟨m0,m1⟩) (first|(go_at_call 200;(with_reducible refine C4.out.mono ?_);rintro e w4 ⟨rfl,v4,hW4,hk4⟩;have m0:w4.cell? ⟨pb,0,none⟩=some (.int .i64 S):=(World.cell?_of_block (a:=⟨pb,0,none⟩) (hk4.block pb KP.out)).trans k1;have m1:w4.cell? ⟨pb,1,none⟩=some (.int .i64 L):=(World.cell?_of_block (a:=⟨pb,1,none⟩) (hk4.block pb KP.out)).trans q1))
  have r2:w4.cell? ⟨pb,2,none⟩=some (.int .i64 D):=(World.cell?_of_block (a:=⟨pb,2,none⟩) (hk4.block pb KP.out)).trans q2
  have r3:w4.cell? ⟨pb,3,none⟩=some (.int .i64 F):=(World.cell?_of_block (a:=⟨pb,3,none⟩) (hk4.block pb KP.out)).trans q3
  have r1:w4.cell? ⟨g,3,none⟩=some (.pointer (some ⟨gf,0,none⟩)):=hW4.blk.cell 3
  have C5:=hid (C5.out w4.drew v4 (HF3.out.drew.kept hk4 HMF.out).drew hW4.drew)
  have HK4:Hid (Kept M w2 w4):=HK3.out.drew.trans hk4
  clear hW4 hk4 C4 HF3 HK3 k0 k1 q1 q2 q3 m0 m1
  go_upto_region 5 with fail
  go_region_held3 (fun wx=>wx.cell? ⟨g,3,none⟩=some (.pointer (some ⟨gf,0,none⟩))/\wx.cell? ⟨pb,2,none⟩=some (.int .i64 D)) (first|exact⟨r1,r2⟩|exact⟨m0,m1⟩) (first|(go_at_call 239;(with_reducible refine C5.out.mono ?_);rintro e w5 ⟨rfl,v5,hW5,hk5⟩;have m0:w5.cell? ⟨g,3,none⟩=some (.pointer (some ⟨gf,0,none⟩)):=hW5.blk.cell 3;have m1:w5.cell? ⟨pb,2,none⟩=some (.int .i64 D):=(World.cell?_of_block (a:=⟨pb,2,none⟩) (hk5.block pb KP.out)).trans r2))
  have n3:w5.cell? ⟨pb,3,none⟩=some (.int .i64 F):=(World.cell?_of_block (a:=⟨pb,3,none⟩) (hk5.block pb KP.out)).trans r3
  have C6:=hid (C6.out w5.drew v5 hW5.drew)
  have HK5:Hid (Kept M w2 w5):=HK4.out.drew.trans hk5
  clear hW5 hk5 C5 HK4 r1 r2 r3 m0
  go_upto_region 6 with fail
  go_region_held3 (fun wx=>wx.cell? ⟨pb,2,none⟩=some (.int .i64 D)/\wx.cell? ⟨pb,3,none⟩=some (.int .i64 F)) (first|exact⟨m1,n3⟩|exact⟨s0,s1⟩) (first|(go_at_call 200;(with_reducible refine C6.out.mono ?_);rintro e w6 ⟨rfl,v6,hW6,hk6⟩;have s0:w6.cell? ⟨pb,2,none⟩=some (.int .i64 D):=(World.cell?_of_block (a:=⟨pb,2,none⟩) (hk6.block pb KP.out)).trans m1;have s1:w6.cell? ⟨pb,3,none⟩=some (.int .i64 F):=(World.cell?_of_block (a:=⟨pb,3,none⟩) (hk6.block pb KP.out)).trans n3))
  have HW6:=hid hW6
  have HK6:Hid (Kept M w2 w6):=HK5.out.drew.trans hk6
  clear hW6 hk6 C6 HK5 m1 n3 s0 s1
  go_wp2_with fail
  refine bodyPost_end (results_none rfl _ _ _) rfl ?_
  exact⟨rfl,v6,HW6.out.weak HMK.out,(Kept.of_below HBEL.out HKK.out).trans (vkZ HK6.out HMK.out)⟩
end Go.Proofs.YtmlaajebadfkoaaGreatDoor.Huff
