/- The cells of a coder -/
import Derived.Test.YtfgdoknipbpfhaaGreatDoorZTwoBack15
import Derived.Deep.RegionLaw
import Derived.Deep.AppendLies
namespace Go.Proofs.YtfgdoknipbpfhaaGreatDoor
open Go.Proofs.Tryz
open Go.Lib (hid)
set_option maxHeartbeats 1000000
set_option maxRecDepth 100000
variable{ls:List Nat}{B base c g gc i k l lo x y:Nat}{vc vl:Value}{w w':World}{t:TypeId}
open Go.RowKit
def Fm(ls:List Nat)(l:Nat):List Nat:=if l=0 then []else Aa8 ls l
theorem jJ(ls:List Nat)(l:Nat):(Fm ls l).length=cn ls l:=by
 unfold Fm cn;split
 ·rfl
 ·exact Q8 l ls
theorem L0(hx:ls[k]? =some x)(h0:x≠0)(l:Nat):cn (ls.take (k+1)) l=cn (ls.take k) l+if x=l then 1 else 0:=by
 rw[I4 hx];unfold cn;split
 ·rename_i h;subst h;rw[Aa h0]
 ·rw[Ip]
theorem Qd(hx:ls[k]? =some 0)(l:Nat):cn (ls.take (k+1)) l=cn (ls.take k) l:=by
 rw[I4 hx];unfold cn;split
 ·rfl
 ·rw[Ip,Aa nj];rfl
theorem ZX(hx:ls[k]? =some x)(h0:x≠0)(l:Nat):Fm (ls.take (k+1)) l=Fm (ls.take k) l++if x=l then [k]else []:=by
 have hk:(ls.take k).length=k:=by have:=(CQ.1 hx).1;rw[AY];omega
 rw[I4 hx];unfold Fm;split
 ·rename_i h;subst h;rw[Aa h0];rfl
 ·rw[Mf,hk]
theorem Zx(hx:ls[k]? =some 0)(l:Nat):Fm (ls.take (k+1)) l=Fm (ls.take k) l:=by
 rw[I4 hx];unfold Fm;split
 ·rfl
 ·rw[Mf,Aa nj,Cg]
def Fy(ls:List Nat)(k l:Nat):Nat:=if cn (ls.take k) l=0 then 0 else fst ls l
def Al0(sv:Nat->Value)(l:Nat)(v:Value):Nat->Value:=fun m=>if m=l then v else sv m
structure Cells (ls:List Nat) (k:Nat) (vl vc:Value) (sv:Nat->Value) (cs:Array Value):Prop where
 size:cs.size=50
 lens:cs[0]? =some vl
 codes:cs[1]? =some vc
 first:∀l,l<16->cs[2+l]? =some (.int .i64 (Fy ls k l:Nat))
 many:∀l,l<16->cs[18+l]? =some (.int .i64 (cn (ls.take k) l:Nat))
 syms:∀l,l<16->cs[34+l]? =some (sv l)
theorem Cells.start(ls:List Nat)(vl vc:Value):Cells ls 0 vl vc (fun _=> .slice none 0 0)
 #[vl,vc, .int .i64 0, .int .i64 0, .int .i64 0, .int .i64 0, .int .i64 0, .int .i64 0, .int .i64 0, .int .i64 0, .int .i64 0, .int .i64 0, .int .i64 0, .int .i64 0, .int .i64 0, .int .i64 0, .int .i64 0, .int .i64 0,
  .int .i64 0, .int .i64 0, .int .i64 0, .int .i64 0, .int .i64 0, .int .i64 0, .int .i64 0, .int .i64 0, .int .i64 0, .int .i64 0, .int .i64 0, .int .i64 0, .int .i64 0, .int .i64 0, .int .i64 0, .int .i64 0,
  .slice none 0 0, .slice none 0 0, .slice none 0 0, .slice none 0 0, .slice none 0 0, .slice none 0 0, .slice none 0 0, .slice none 0 0, .slice none 0 0, .slice none 0 0, .slice none 0 0, .slice none 0 0, .slice none 0 0, .slice none 0 0, .slice none 0 0, .slice none 0 0]:=by
 have hc:∀l,cn (ls.take 0) l=0:=by intro l;simp[cn,LD]
 have hf:∀l,Fy ls 0 l=0:=by intro l;unfold Fy;rw[Ab (hc l)]
 refine⟨rfl,rfl,rfl,fun l hl=> ?_,fun l hl=> ?_,fun l hl=> ?_⟩
 ·rw[hf];have:l=0∨l=1∨l=2∨l=3∨l=4∨l=5∨l=6∨l=7∨l=8∨l=9∨l=10∨l=11∨l=12∨l=13∨l=14∨l=15:=by omega
  exact a1r
 ·rw[hc];have:l=0∨l=1∨l=2∨l=3∨l=4∨l=5∨l=6∨l=7∨l=8∨l=9∨l=10∨l=11∨l=12∨l=13∨l=14∨l=15:=by omega
  exact a1r
 ·have:l=0∨l=1∨l=2∨l=3∨l=4∨l=5∨l=6∨l=7∨l=8∨l=9∨l=10∨l=11∨l=12∨l=13∨l=14∨l=15:=by omega
  exact a1r
theorem Cells.skip{sv:Nat->Value}{cs:Array Value}(h:Cells ls k vl vc sv cs)(hx:ls[k]? =some 0):Cells ls (k+1) vl vc sv cs:=by
 refine⟨h.size,h.lens,h.codes,fun l hl=> ?_,fun l hl=> ?_,h.syms⟩
 ·rw[h.first l hl];unfold Fy;rw[Qd hx]
 ·rw[h.many l hl,Qd hx]
theorem Cells.next{v:Value}{sv:Nat->Value}{cs:Array Value}(h:Cells ls k vl vc sv cs)(hx:ls[k]? =some x)(h0:x≠0)(i:x<=15)(hc:cn (ls.take k) x=c)(j:c≠0):
 Cells ls (k+1) vl vc (Al0 sv x v) ((cs.setIfInBounds (18+x) (.int .i64 ((c+1:Nat):Int))).setIfInBounds (34+x) v):=by
 have hs:=h.size;refine⟨by simpa using hs,?_,?_,fun l hl=> ?_,fun l hl=> ?_,fun l hl=> ?_⟩
 ·rw[Array.getElem?_setIfInBounds_ne nj,Array.getElem?_setIfInBounds_ne nj,h.lens]
 ·rw[Array.getElem?_setIfInBounds_ne nj,Array.getElem?_setIfInBounds_ne nj,h.codes]
 ·rw[Array.getElem?_setIfInBounds_ne nj,Array.getElem?_setIfInBounds_ne nj,h.first l hl];unfold Fy;rw[L0 hx h0];by_cases e:x=l
  ·subst e;rw[Aa nj,Aa rX]
  ·rw[Aa e];rfl
 ·rw[Array.getElem?_setIfInBounds_ne nj,Gp,L0 hx h0];by_cases e:x=l
  ·subst e;rw[Ab rfl,Ab nj,Ab rfl,hc]
  ·rw[Aa nj,Aa e,h.many l hl];rfl
 ·rw[Gp];unfold Al0;by_cases e:x=l
  ·subst e;rw[Ab rfl,Ab sj,Ab rfl]
  ·rw[Aa nj,Aa (Ba e),Array.getElem?_setIfInBounds_ne nj,h.syms l hl]
theorem Cells.fresh{v:Value}{sv:Nat->Value}{cs:Array Value}(h:Cells ls k vl vc sv cs)(hx:ls[k]? =some x)(h0:x≠0)(j:x<=15)(hc:cn (ls.take k) x=0):
 Cells ls (k+1) vl vc (Al0 sv x v) (((cs.setIfInBounds (2+x) (.int .i64 (code ls k:Nat))).setIfInBounds (18+x) (.int .i64 ((0+1:Nat):Int))).setIfInBounds (34+x) v):=by
 have hs:=h.size;have i:code ls k=fst ls x:=by rw[Jc hx h0];unfold cn at hc;rw[Aa h0]at hc;omega
 refine⟨by simpa using hs,?_,?_,fun l hl=> ?_,fun l hl=> ?_,fun l hl=> ?_⟩
 ·rw[Array.getElem?_setIfInBounds_ne nj,Array.getElem?_setIfInBounds_ne nj,Array.getElem?_setIfInBounds_ne nj,h.lens]
 ·rw[Array.getElem?_setIfInBounds_ne nj,Array.getElem?_setIfInBounds_ne nj,Array.getElem?_setIfInBounds_ne nj,h.codes]
 ·rw[Array.getElem?_setIfInBounds_ne nj,Array.getElem?_setIfInBounds_ne nj,Gp];unfold Fy;rw[L0 hx h0];by_cases e:x=l
  ·subst e;rw[Ab rfl,Ab nj,Aa rX,i]
  ·rw[Aa nj,h.first l hl,Aa e];rfl
 ·rw[Array.getElem?_setIfInBounds_ne nj,Gp,L0 hx h0];by_cases e:x=l
  ·subst e;rw[Ab rfl,Ab sj,Ab rfl,hc]
  ·rw[Aa nj,Aa e,Array.getElem?_setIfInBounds_ne nj,h.many l hl];rfl
 ·rw[Gp];unfold Al0;by_cases e:x=l
  ·subst e;rw[Ab rfl,Ab sj,Ab rfl]
  ·rw[Aa nj,Aa (Ba e),Array.getElem?_setIfInBounds_ne nj,Array.getElem?_setIfInBounds_ne nj,h.syms l hl]
structure Rows (w:World) (base:Nat) (ls:List Nat) (k:Nat) (sv:Nat->Value):Prop where
 own:∀l,l<16->w.ownsRow base 3 1 (sv l) (cn (ls.take k) l) (dZ .i64 (Fm (ls.take k) l))
 apart:∀l m x,l<16->m<16->l≠m->(sv l).ownBlock=some x->(sv m).ownBlock≠some x
theorem Rows.start(w:World)(base:Nat)(ls:List Nat):Rows w base ls 0 (fun _=> .slice none 0 0):=by
 refine⟨fun l hl=> ?_,fun l m x _ _ _ h=>by cases h⟩;have h1:cn (ls.take 0) l=0:=by simp[cn,LD]
 have h2:Fm (ls.take 0) l= []:=by unfold Fm;split<;>rfl
 rw[h1,h2];exact AI _ _ _ _
theorem Rows.kept{sv:Nat->Value}(h:Rows w base ls k sv)(hk:∀l x,l<16->(sv l).ownBlock=some x->w'.heap[x]? =w.heap[x]?):Rows w' base ls k sv:=
 ⟨fun l hl=>eZ (h.own l hl) (fun x hx=>hk l x hl hx),h.apart⟩
theorem Rows.alloc{sv:Nat->Value}(h:Rows w base ls k sv)(o:Obj):Rows (w.alloc o) base ls k sv:=⟨fun l hl=>(h.own l hl).alloc o,h.apart⟩
theorem Rows.drew{sv:Nat->Value}(h:Rows w base ls k sv):Rows w.drew base ls k sv:=⟨h.own,h.apart⟩
theorem Rows.set{sv:Nat->Value}{cs:Array Value}(h:Rows w base ls k sv)(hg:Blk w g t cs)(ht:3≠t)(i:Nat)(u:Value):Rows (w.setCell ⟨g,i,none⟩ u) base ls k sv:=
 h.kept fun l x hl hx=>AW w _ u x (fun e=>gZ (h.own l hl) hg ht (by rw[hx,e]))
theorem Rows.skip{sv:Nat->Value}(h:Rows w base ls k sv)(hx:ls[k]? =some 0):Rows w base ls (k+1) sv:=
 ⟨fun l hl=>by rw[Qd hx,Zx hx];exact h.own l hl,h.apart⟩
theorem Rows.push{w3:World}{g3:Nat}{sv:Nat->Value}(h:Rows w base ls k sv)(hx:ls[k]? =some x)(h0:x≠0)(E:x<=15)(hc:cn (ls.take k) x=c)
 (z:w3.ownsRow base 3 1 (.slice (some ⟨g3,0,none⟩) (c+1) i) (c+1) (dZ .i64 (Fm (ls.take k) x)++ [.int .i64 (k:Nat)]))(hg:w.grownBy w3 (sv x).ownBlock)(j:(sv x).ownBlock=some g3∨g3=w.heap.size):
 Rows w3 base ls (k+1) (Al0 sv x (.slice (some ⟨g3,0,none⟩) (c+1) i)):=by
 refine⟨fun l hl=> ?_,fun a b y ha hb hab hy=> ?_⟩
 ·rw[L0 hx h0,ZX hx h0];unfold Al0;by_cases e:l=x
  ·subst e;rw[Ab rfl,Ab rfl,Ab rfl,hc];simpa[dZ]using z
  ·rw[Aa e,Aa (Ba e),Aa (Ba e),Cg];refine(h.own l hl).kept hg ?_;cases hb:(sv l).ownBlock with
   |none=>exact .inl rfl
   |some y=>exact .inr (fun e2=>h.apart l x y hl nj e hb e2.symm)
 ·unfold Al0 at hy ⊢;by_cases e1:a=x
  ·subst e1;rw[Ab rfl]at hy;rw[Aa (Ba hab)];have hy:g3=y:=(by simpa[Value.ownBlock]using hy);subst hy;rcases j with h1|h1
   ·exact h.apart a b g3 ha hb hab h1
   ·intro h2;have:=(Aj (h.own b hb) g3 h2).2;omega
  ·rw[Aa e1]at hy;by_cases e2:b=x
   ·subst e2;rw[Ab rfl];intro h2;have h2:g3=y:=(by simpa[Value.ownBlock]using h2);subst h2;rcases j with h1|h1
    ·exact h.apart a b g3 ha hb hab hy h1
    ·have:=(Aj (h.own a ha) g3 hy).2;omega
   ·rw[Aa e2];exact h.apart a b y ha hb hab hy
def RowIn(w:World)(lo B:Nat)(A:Option Addr)(n s:Nat)(f:Nat->Nat->Value):Prop:=
 0<n->∃b off,A=some ⟨b,off,none⟩/\(lo<=b/\b<B)/\∀i j,i<n->j<s->w.cell? ⟨b,off+(i*s+j),none⟩=some (f i j)
section
variable {w w':World} {lo lo' B B' n s:Nat} {A:Option Addr} {f g:Nat->Nat->Value}
theorem RowIn.row(h:RowIn w lo B A n s f):Row w B A n s f:=fun hn=>by obtain⟨b,i,e,hb,hc⟩:=h hn;exact⟨b,i,e,hb.2,hc⟩
theorem RowIn.keep(h:RowIn w lo B A n s f)(hk:∀p:Addr,lo<=p.block->p.block<B->w'.cell? p=w.cell? p):RowIn w' lo B A n s f:=fun hn=>by obtain⟨b,y,e,hb,hc⟩:=h hn;exact⟨b,y,e,hb,fun i j hi hj=>(hk _ hb.1 hb.2).trans (hc i j hi hj)⟩
theorem RowIn.mono(h:RowIn w lo B A n s f)(hl:lo'<=lo)(hB:B<=B'):RowIn w lo' B' A n s f:=fun hn=>by obtain⟨b,i,e,hb,hc⟩:=h hn;exact⟨b,i,e,⟨nj,nj⟩,hc⟩
theorem RowIn.of_own{e:TypeId}{v:Value}{xs:List Value}(h:w.ownsRow base e s v n xs)(hv:v= .slice A n c)(hf:∀i j,i<n->j<s->xs[i*s+j]? =some (f i j)):RowIn w base w A n s f:=fun hn=>by
 rcases h.2 with ⟨_,h0⟩|⟨g,E,cur,z,hb,hh,G,_,J,y⟩
 ·omega
 ·rw[hv]at z;injection z with e1 e2 e3;refine⟨g,0,e1,⟨hb,Blk.lt hh⟩,fun i j hi hj=> ?_⟩;rw[Ca,Blk.cell hh];have:=hf i j hi hj;rw[<-y,GD]at this;split at this
  ·simpa using this
  ·cases this
theorem RowIn.of_blk{cs:Array Value}{b:Nat}(h:Blk w b t cs)(hl:lo<=b)(hB:b<B)(hf:∀i j,i<n->j<s->cs[i*s+j]? =some (f i j)):RowIn w lo B (some ⟨b,0,none⟩) n s f:=
 fun _=>⟨b,0,rfl,⟨hl,hB⟩,fun i j hi hj=>by rw[Ca,h.cell];exact hf i j hi hj⟩
end
theorem Ab2{k:IntKind}(h:i<ls.length):(dZ k ls)[i*1+0]? =some (jZ k ls i 0):=by simp[dZ,jZ,List.getD_eq_getElem?_getD,h]
structure Coder (w:World) (lo B g:Nat) (ls:List Nat):Prop where
 ge:lo<=g
 lt:g<B
 free:∀i,w.frozen? ⟨g,i,none⟩=false
 lens:∃A c,w.cell? ⟨g,0,none⟩=some (.slice A ls.length c)/\RowIn w lo B A ls.length 1 (jZ .u8 ls)
 codes:∃A c,w.cell? ⟨g,1,none⟩=some (.slice A ls.length c)/\RowIn w lo B A ls.length 1 (fun i _=> .int .u16 (Hi ls i:Nat))
 first:∀l,l<16->w.cell? ⟨g,2+l,none⟩=some (.int .i64 (Fy ls ls.length l:Nat))
 many:∀l,l<16->w.cell? ⟨g,18+l,none⟩=some (.int .i64 (cn ls l:Nat))
 syms:∀l,l<16->∃A c,w.cell? ⟨g,34+l,none⟩=some (.slice A (cn ls l) c)/\RowIn w lo B A (cn ls l) 1 (jZ .i64 (Fm ls l))
theorem Coder.keep(h:Coder w lo B g ls)(hk:∀b,lo<=b->b<B->w'.heap[b]? =w.heap[b]?):Coder w' lo B g ls:=by
 have hg:=hk g h.ge h.lt;have hc:∀p:Addr,lo<=p.block->p.block<B->w'.cell? p=w.cell? p:=fun p h1 h2=>World.cell?_of_block (hk p.block h1 h2);have j:∀i,w'.cell? ⟨g,i,none⟩=w.cell? ⟨g,i,none⟩:=fun i=>World.cell?_of_block (a:=⟨g,i,none⟩) hg;refine⟨h.ge,h.lt,fun i=>(World.frozen?_of_block (a:=⟨g,i,none⟩) hg).trans (h.free i),?_,?_,fun l hl=>(j _).trans (h.first l hl),fun l hl=>(j _).trans (h.many l hl),fun l hl=> ?_⟩
 ·obtain⟨A,c,h1,h2⟩:=h.lens;exact⟨A,c,(j _).trans h1,h2.keep hc⟩
 ·obtain⟨A,c,h1,h2⟩:=h.codes;exact⟨A,c,(j _).trans h1,h2.keep hc⟩
 ·obtain⟨A,c,h1,h2⟩:=h.syms l hl;exact⟨A,c,(j _).trans h1,h2.keep hc⟩
theorem Coder.below(h:Coder w lo B g ls){C:Nat}(hb:Below C w w')(hC:B<=C):Coder w' lo B g ls:=
 h.keep fun b _ h2=>hb.block b nj
theorem Coder.mono{lo' B':Nat}(h:Coder w lo B g ls)(hl:lo'<=lo)(hB:B<=B'):Coder w lo' B' g ls:=by
 refine⟨by have:=h.ge;omega,by have:=h.lt;omega,h.free,?_,?_,h.first,h.many,fun l hx=> ?_⟩
 ·obtain⟨A,c,h1,h2⟩:=h.lens;exact⟨A,c,h1,h2.mono hl hB⟩
 ·obtain⟨A,c,h1,h2⟩:=h.codes;exact⟨A,c,h1,h2.mono hl hB⟩
 ·obtain⟨A,c,h1,h2⟩:=h.syms l hx;exact⟨A,c,h1,h2.mono hl hB⟩
theorem i5{w2 wr:World}{n c2:Nat}{A2:Option Addr}{sv:Nat->Value}{cs arr:Array Value}(hn:ls.length=n)(G:lo<=w.heap.size)(z1:w.heap.size<=g)(hg:g=w2.heap.size)
 (blk:Blk wr g 364 cs)(hC:Cells ls n (.slice A2 n c2) (.slice (some ⟨gc,0,none⟩) n n) sv cs)(hR:Rows wr (g+1) ls n sv)(h:Below g w2 wr)
 (y:w2.ownsRow w 5 1 (.slice A2 n c2) n (dZ .u8 ls))(z:Blk w2 gc 25 arr)(J:lo<=gc)(hW:Wds ls n n arr):Coder wr lo wr g ls:=by
 subst hn hg;have rz:=h.size;have E:ls.take ls.length=ls:=Cf (Ak _);refine⟨nj,blk.lt,blk.frozen,⟨A2,c2,(blk.cell 0).trans hC.lens,?_⟩,⟨some ⟨gc,0,none⟩,ls.length,(blk.cell 1).trans hC.codes,?_⟩,fun l hl=>(blk.cell _).trans (hC.first l hl),fun l hl=> ?_,fun l hl=> ?_⟩
 ·have:=RowIn.of_own (f:=jZ .u8 ls) y rfl (fun i j hi hj=>by have e0:j=0:=nj;subst e0;exact Ab2 hi);exact(this.keep (fun p _ h2=>h.cell h2)).mono G rz
 ·have:=RowIn.of_blk (n:=ls.length) (s:=1) (lo:=lo) (B:=w2.heap.size) (f:=fun i _=> .int .u16 (Hi ls i:Nat)) z J z.lt (fun i j hi hj=>by
   obtain rfl:j=0:=nj
   rw[CZ,Bt,hW.2 i hi,Ab hi])
  exact(this.keep (fun p _ h2=>h.cell h2)).mono (Ak _) rz
 ·have:=hC.many l hl;rw[E]at this;exact(blk.cell _).trans this
 ·have h1:=hR.own l hl;rw[E]at h1;obtain⟨A,c,e⟩:=bZ h1;have h2:=hC.syms l hl;rw[e]at h2;refine⟨A,c,(blk.cell _).trans h2,?_⟩;exact(RowIn.of_own (f:=jZ .i64 (Fm ls l)) h1 e (fun i j hi hj=>by have e0:j=0:=nj;subst e0;exact Ab2 (by rw[jJ];exact hi))).mono nj (Ak _)
theorem Ac4:(prog.info? 3).map (fun i=>(i.zero,i.size,i.bytes))=some (some (.int .i64 0),1,8):=my
def Te(ls:List Nat)(w:World)(e:Ending)(w':World):Prop:=
 ∃g,e= .returned (.tuple #[.pointer (some ⟨g,0,none⟩),ij])/\Coder w' w w' g ls/\Below w w w'
theorem a0j{p:Prop}(h:p:=by
  have mA:=E.cell (18+x);rw[M]at mA;have fA:=E.frozen (18+x);have s1:IntKind.i64.wrap ((q:Int)+1)=(q:Int)+1:=Ar _ nj;go_upto_region 11 with fail;go_region;clear s1 mA fA;have z:=(E.set (18+x) (.int .i64 ((q:Int)+1))).drew;have RB:=hid ((RA.out.set E ip (18+x) (.int .i64 ((q:Int)+1))).drew);have Y:=(BS (p:=⟨w2.heap.size,18+x,none⟩) (u:= .int .i64 ((q:Int)+1)) (Ak _) belA).drew;have zB:=Y.size;have sB:=z.cell (34+x);rw[Array.getElem?_setIfInBounds_ne nj,N]at sB;have fB:=z.frozen (34+x);have j:=RB.out.own x nj;rw[<-HQ.out]at j;have af:=gZ j z ip;obtain⟨AS,cS,aa⟩:=bZ j;have ah:=hid aa;rw[aa]at sB j af;clear M N E RA belA zA aa;generalize (wA.setCell ⟨w2.heap.size,18+x,none⟩ (.int .i64 ((q:Int)+1))).drew=wB at *;have au:=z.lt;have ag:some w2.heap.size≠(Value.slice AS q cS).ownBlock:=Ba af;go_upto_region 12 with fail;go_region_law((refine step_append_lies _ nm _ _ _ nm (w2.heap.size+1) 3 j0 _ 1 8 underlying37 a6 az ay a8 rfl nj (.slice AS q cS) q (dZ .i64 (Fm (ls.take k) x)) nm ((j.alloc _).drew) ⟨wB,0,none⟩ 1 1 [.int .i64 (k:Nat)] nm nm (World.news_of_block (cs:=#[.int .i64 (k:Nat)]) (t:=3) (fr:=(0,0)) (heap_alloc_new wB _)) mu nj sS nj sj (wB.heap.size+1) rX ?_;intro g3 a1 w3 ab J aq a3;have gb:w3.heap[w2.heap.size]? =wB.heap[w2.heap.size]? :=(J.block w2 sj ag).trans (EA wB _ w2 au);have p3:=(World.cell?_of_block (a:=⟨w2.heap.size,34+x,none⟩) gb).trans sB;have p4:=(World.frozen?_of_block (a:=⟨w2.heap.size,34+x,none⟩) gb).trans fB))
  all_goals
   go_wp2_with fail;go_roundw
   case measure=>exact jq
   case rel=>go_light;have U:Blk w3 w2 364 _:=gb.trans z;have ar:=Rows.push ((RB.out.alloc _).drew) HX.out ac Z HQ.out.symm ab (by rw[ah.out];exact J) (by rw[ah.out];simpa using aq);refine⟨k+1,_,_,nj,jr,U.set _ _,ai.out _,ar.set U ip _ _,BS (p:=⟨w2.heap.size,34+x,none⟩) (Ak _) (((pZ zB Y).drew).grown J sj (fun y hy=> ?_))⟩;have:=(Aj j y hy).1;omega):p:=h
theorem Ab6(w:World)(A:Option Addr)(n c:Nat)(ls:List Nat)(hn:ls.length=n)(aj:okB ls=true)(al:A=none->n=0/\c=0)(ha:Row w w A n 1 (jZ .u8 ls)):
 Calls prog 277 #[.slice A n c] w (Te ls w):=by
 obtain⟨a4,ba,_⟩:=Ab0 aj;rw[hn]at a4;have C1:=hid (ZD w A n c ls hn aj ha);have C2:=hid (fun wx (h:Row wx wx A n 1 (jZ .u8 ls))=>IS wx A n c ls hn nj al h);have HN:=hid hn;have be:=hid ba;have bf:=hid aj;obtain⟨j0,a6,az,ay,a8⟩:=info_parts Ac4;clear hn aj ba al;go_enter func277,ntmps277;go_wp2_with fail;refine C1.out.mono ?_;rintro e w1 ⟨gc,arr,rfl,bc,hw,bg,an⟩;have z1:=an.size;go_wp2_with fail;refine(C2.out _ ((ha.below an).mono z1)).mono ?_;rintro e w2 ⟨vl,rfl,ae,av⟩;have z2:=av.size;have am:=bc.step av;have Q:Below w w w2:=xZ av z1 an;have HW:=hid hw;have a9:=am.lt;have bd:=(ha.below Q).mono Q.size;clear hw bc C1 C2;obtain⟨A2,c2,rfl⟩:=bZ ae;go_wp2_with fail;go_loopw [25] (fun i wr=>∃ (k:Nat) (sv:Nat->Value) (cs:Array Value),k<=n/\i= .int .i64 k/\Blk wr w2 364 cs/\Hid (Cells ls k (.slice A2 n c2) (.slice (some ⟨gc,0,none⟩) n n) sv cs)/\Hid (Rows wr (w2.heap.size+1) ls k sv)/\Below w2 w2 wr) (fun i _=>n-(intOf i).toNat)
 case atStart=>exact⟨0,_,_,nj,rfl,Blk.made _ _ _,Cells.start ls _ _,Rows.start _ _ _,aZ (Ae _ _)⟩
 case round=>
  obtain⟨k,sv,cs,hk,rfl,blk,hC,hR,G⟩:=hrel;have rz:=G.size;by_cases aw:k<n
  ·obtain⟨b,bh,x,rfl,bk,hx,c0⟩:=CO (bd.below G) HN.out aw;have HX:=hid hx;have Z:=be.out x (Bp hx);have x0:(0:Int)<=(k:Int):=nj;have x1:(k:Int)<(n:Int):=nj;clear hx;by_cases ac:x=0
   ·subst ac;go_wp2_with fail;go_roundw
    case rel=>go_light;exact⟨k+1,sv,cs,nj,jr,blk,hC.out.skip HX.out,hR.out.skip HX.out,G⟩
    case measure=>exact jq
   ·have a0:=Ku (ls.take k) x;rw[AY]at a0;have xp:0<x:=nj;have y0:(0:Int)<=(x:Int):=nj;have y1:(x:Int)<16:=nj;have m0:=blk.cell (18+x);rw[hC.out.many x nj]at m0;obtain⟨q,hq⟩:=ii (cn (ls.take k) x);rw[<-hq]at m0 a0;have HQ:=hid hq;clear hq;by_cases ak:q=0
    ·have bj:((q:Int)==0)=true:=sj;have ax:=hid ak;clear ak;have d0:=(am.below G a9).cell k;rw[HW.out.2 k aw,Ab aw]at d0;have f0:=blk.frozen (2+x);have f1:=blk.cell (2+x);rw[hC.out.first x nj]at f1;have a5:=OL bf.out HX.out ac;have a7:code ls k<65536:=Ek a5 (by have:2 ^ x<=2 ^ 15:=Cm nj Z;omega);have hv:Hi ls k=code ls k:=Nat.mod_eq_of_lt a7;have L:=fun v=>hC.out.fresh (v:=v) HX.out ac Z (HQ.out.symm.trans ax.out);rw[hv]at d0;generalize code ls k=v at *;have bb:=hid L;clear hv L a5;go_upto_region 10 with fail;go_region;have E:=(blk.set (2+x) (.int .i64 (v:Nat))).drew;have ai:Hid (∀v',Cells ls (k+1) (.slice A2 n c2) (.slice (some ⟨gc,0,none⟩) n n) (Al0 sv x v') (((cs.setIfInBounds (2+x) (.int .i64 (v:Nat))).setIfInBounds (18+x) (.int .i64 ((q:Int)+1))).setIfInBounds (34+x) v')):=(by rw[ax.out];exact bb.out);clear bb;have M:(cs.setIfInBounds (2+x) (.int .i64 (v:Nat)))[18+x]? =some (.int .i64 ((q:Nat):Int)):=(by rw[Array.getElem?_setIfInBounds_ne nj,hC.out.many x nj,<-HQ.out]);have N:(cs.setIfInBounds (2+x) (.int .i64 (v:Nat)))[34+x]? =some (sv x):=(by rw[Array.getElem?_setIfInBounds_ne nj,hC.out.syms x nj]);have RA:=hid ((hR.out.set blk ip (2+x) (.int .i64 (v:Nat))).drew);have belA:=(BS (p:=⟨w2.heap.size,2+x,none⟩) (u:= .int .i64 (v:Nat)) (Ak _) G).drew;have zA:=belA.size;clear m0 f0 f1 d0 c0 blk G rz;generalize cs.setIfInBounds (2+x) (.int .i64 (v:Nat))=bl at *;generalize (wr.setCell ⟨w2.heap.size,2+x,none⟩ (.int .i64 (v:Nat))).drew=wA at *;exact a0j
    ·have bi:((q:Int)==0)=false:=sj;have L:=fun v=>hC.out.next (v:=v) HX.out ac Z HQ.out.symm ak;have ai:Hid (∀v',Cells ls (k+1) (.slice A2 n c2) (.slice (some ⟨gc,0,none⟩) n n) (Al0 sv x v') ((cs.setIfInBounds (18+x) (.int .i64 ((q:Int)+1))).setIfInBounds (34+x) v')):=L;have M:cs[18+x]? =some (.int .i64 ((q:Nat):Int)):=(by rw[hC.out.many x nj,<-HQ.out]);have N:=hC.out.syms x nj;have RA:=hR;have belA:=G;have zA:=rz;have E:=blk;obtain⟨wA,rfl⟩:=ii wr;clear blk G rz L ak;exact a0j
  ·obtain rfl:k=n:=by omega
   go_wp2_with fail;go_ret2;exact⟨w2.heap.size,rfl,i5 HN.out z1 z2 rfl blk hC.out hR.out G ae am bg HW.out,Q.trans (G.mono Q.size)⟩
theorem Coder.len(hC:Coder w lo B gc ls)(h:∀x∈ls,x<=15)(s:Int)(hs: -9223372036854775808<=s/\s<=9223372036854775807):
 Calls prog 278 #[.pointer (some ⟨gc,0,none⟩),s] w fun e w'=>e= .returned (.int .i64 (FG ls s:Nat))/\w=w':=by
 obtain⟨A,c,h1,h2⟩:=hC.lens;exact Ai1 w gc B A ls.length c ls s rfl hs (fun x hx=>by have:=h x hx;omega) h1 h2.row
theorem Coder.drew(h:Coder w lo B g ls):Coder w.drew lo B g ls:=h.keep fun _ _ _=>rfl
theorem Coder.kept{K:Nat->Prop}(h:Coder w lo B g ls)(hk:Kept K w w')(hK:∀k,lo<=k->k<B->K k):Coder w' lo B g ls:=h.keep fun b h1 h2=>hk.block b (hK b h1 h2)
theorem MF(K:Nat->Prop)(w:World)(lo B gc:Nat)(ls:List Nat)(g base:Nat)(t:TypeId)(rest:List Value)(v:Value)(bs:List Bool)(s:Int)(hs: -9223372036854775808<=s/\s<=9223372036854775807)
 (J:okB ls=true)(hC:Coder w lo B gc ls)(hK:∀k,lo<=k->k<B->K k)(h0:FG ls s≠0)(ab:bs.length<=5000000)(hW:Wr K w base g t rest bs v):
 Calls prog 227 #[.pointer (some ⟨gc,0,none⟩), .pointer (some ⟨g,0,none⟩),s] w
  fun e w'=>e= .returned (.int .i64 0)/\∃v',Wr K w' base g t rest (bs++word ls s.toNat) v'/\Kept K w w':=by
 obtain⟨aa,y,_⟩:=Ab0 J;obtain⟨m,x,rfl,hx,Z⟩:=jT h0;have Q:=y x (Bp hx);have hm:=(CQ.1 hx).1;have hl:FG ls (m:Int)=x:=by unfold FG;rw[Aa nj];simp[List.getD_eq_getElem?_getD,hx]
 have h:word ls m=msb (code ls m) x x:=by unfold word;simp[List.getD_eq_getElem?_getD,hx]
 have E:=OL J hx Z;have M:code ls m<65536:=Ek E (by have:2 ^ x<=2 ^ 15:=Cm nj Q;omega);have N:Hi ls m=code ls m:=Nat.mod_eq_of_lt M;have C1:=hid (hC.len y (m:Int) hs);have C2:=hid (hC.drew.len y (m:Int) hs);have C3:=hid (Ad3 K w.drew g base t rest v bs (code ls m) x E nj nj hW.drew);rw[hl]at C1 C2;rw[<-h]at C3;rw[BD];obtain⟨AC,cC,d0,z⟩:=hC.codes;obtain⟨bC,oC,rfl,G,i⟩:=z nj;have KG:Hid (K gc):=hK gc hC.ge hC.lt;have KB:Hid (K bC):=hK bC G.1 G.2;have d1:w.cell? ⟨bC,oC+m,none⟩=some (.int .u16 (code ls m:Nat)):=by have:=i m 0 hm nj;simpa[N]using this
 generalize code ls m=cd at *;generalize ls.length=n at *;clear y J hx hl h E N i z hC h0 hW G hK;go_enter func227,ntmps227;go_wp2_with fail;refine C1.out.mono ?_;rintro e w1 ⟨rfl,rfl⟩;have x0:(0:Int)<=(m:Int):=nj
 have x1:(m:Int)<(n:Int):=nj
 have hu:IntKind.u64.wrap (cd:Int)=(cd:Int):=pm
 rw[<-hu]at C3;clear hu;go_upto_region 5 with fail;go_region_held3 (fun wx=>wx.cell? ⟨gc,1,none⟩=some (.slice (some ⟨bC,oC,none⟩) n cC)/\wx.cell? ⟨bC,oC+m,none⟩=some (.int .u16 cd)) (first|exact⟨d0,d1⟩|exact⟨k0,k1⟩) (first|(go_at_call 278;(with_reducible refine C2.out.mono ?_);rintro e w' ⟨rfl,rfl⟩)|(go_at_call 175;(with_reducible refine C3.out.mono ?_);rintro e w' ⟨rfl,v2,L,j⟩;have k0:w'.cell? ⟨gc,1,none⟩=some (.slice (some ⟨bC,oC,none⟩) n cC):=(World.cell?_of_block (a:=⟨gc,1,none⟩) (j.block gc KG.out)).trans d0;have k1:w'.cell? ⟨bC,oC+m,none⟩=some (.int .u16 cd):=(World.cell?_of_block (a:=⟨bC,oC+m,none⟩) (j.block bC KB.out)).trans d1));have Y:=hid L;have U:=hid j;clear L j k0 k1 C1 C2 C3;go_wp2_with fail;go_ret;exact⟨rfl,v2,Y.out,(Kept.refl K w).drew.trans U.out⟩
def Rd(w:World)(lo g:Nat)(bs:List Bool)(at_:Nat):Prop:=
 ∃ (A:Option Addr) (n c:Nat) (ls:List Nat),Blk w g 415 #[.slice A n c, .int .i64 ((8*n:Nat):Int),at_]/\RowIn w lo g A n 1 (jZ .u8 ls)/\ls.length=n/\(∀x∈ls,x<=255)/\bs=BH ls/\at_<=8*n/\n<=100000
theorem Rd.keep{at_:Nat}{bs:List Bool}(h:Rd w lo g bs at_)(hk:∀b,lo<=b->b<=g->w'.heap[b]? =w.heap[b]?)(i:lo<=g):Rd w' lo g bs at_:=by obtain⟨A,n,c,ls,h1,h2,h3⟩:=h;exact⟨A,n,c,ls,(hk g i (Ak _)).trans h1,h2.keep (fun p ha hb=>World.cell?_of_block (hk p.block ha nj)),h3⟩
theorem Rd.drew{at_:Nat}{bs:List Bool}(h:Rd w lo g bs at_):Rd w.drew lo g bs at_:=h
theorem Rd.drewN{at_:Nat}{bs:List Bool}(h:Rd w lo g bs at_)(q:Nat):Rd (w.drewN q) lo g bs at_:=h
theorem Rd.moved{at_:Nat}{bs:List Bool}(h:Rd w lo g bs at_)(hk:at_+k<=bs.length):Rd (w.setCell ⟨g,2,none⟩ (.int .i64 ((at_:Int)+(k:Int)))) lo g bs (at_+k):=by
 obtain⟨A,n,c,ls,h1,h2,h3,h4,h5,h6,h7⟩:=h;refine⟨A,n,c,ls,?_,h2.keep (fun p _ hb=>World.cell?_of_block (AW w _ _ _ (show p.block≠g by omega))),h3,h4,h5,?_,h7⟩
 ·have h:=h1.set 2 (.int .i64 ((at_:Int)+(k:Int)));simpa using h
 ·rw[h5,Fi]at hk;omega
theorem Rd.lt{at_:Nat}{bs:List Bool}(h:Rd w lo g bs at_):g<w.heap.size:=by obtain⟨A,n,c,ls,h1,_⟩:=h;exact h1.lt
theorem dM(y:Nat)(hy:y<18446744073709551616):bits .and .u64 (y:Int) 1=((y % 2:Nat):Int):=ku
theorem cD(x y:Nat)(hx:x<9223372036854775808)(hy:y<=1):bits .or .u64 ((2*x:Nat):Int) (y:Int)=((2*x+y:Nat):Int):=by rw[bits_or_u64_nat _ _ nj nj];congr 1;have h:=Nat.two_pow_add_eq_or_of_lt (b:=y) (i:=1) nj x;rw[show 2 ^ 1=2 from rfl]at h;exact h.symm
theorem SO(w:World)(g B:Nat)(A:Option Addr)(n c i:Nat)(ls:List Nat)(hn:ls.length=n)(hN:n<=100000)(h8:∀x∈ls,x<=255)(hi:i<8*n)(hg:w.cell? ⟨g,0,none⟩=some (.slice A n c))(ha:Row w B A n 1 (jZ .u8 ls)):
 Calls prog 328 #[.pointer (some ⟨g,0,none⟩), .int .i64 (i:Nat)] w fun e w'=>e= .returned (.int .u64 (bit (BH ls) i:Nat))/\w=w':=by
 have hv:=Md (ls:=ls) (i:=i) nj;obtain⟨b,E,x,rfl,hb,hx,d0⟩:=CO ha hn (show i / 8<n by omega);have j:=h8 x (Bp hx);have h:ls.getD (i / 8) 0=x:=by simp[List.getD_eq_getElem?_getD,hx]
 rw[h]at hv;rw[hv];have x0:(0:Int)<=(i:Int) / 8:=nj
 have x1:(i:Int) / 8<(n:Int):=nj
 have x2:(0:Int)<=7-(i:Int) % 8:=nj
 clear hv h hx h8 hn ha;go_enter func328,ntmps328;go_wp2_with fail;go_ret;refine⟨?_,rfl⟩;have e:((x:Int) / 2 ^ (7-i % 8))=((x / 2 ^ (7-i % 8):Nat):Int):=rX
 have z:=Ix x (2 ^ (7-i % 8));show Ending.returned (.int .u64 (bits .and .u64 (IntKind.u64.wrap ((x:Int) / 2 ^ (7-i % 8))) 1))=_;rw[e];generalize x / 2 ^ (7-i % 8)=y at *;rw[show IntKind.u64.wrap (y:Int)=(y:Int) by rw[Bi];omega,dM y nj]
theorem Ad7(w:World)(g B:Nat)(A:Option Addr)(n c at_ m:Nat)(ls:List Nat)(hn:ls.length=n)(hN:n<=100000)(h8:∀x∈ls,x<=255)(Q:at_<=8*n)(hm:m<=64)(hg:w.cell? ⟨g,0,none⟩=some (.slice A n c))(Z:w.cell? ⟨g,1,none⟩=some (.int .i64 ((8*n:Nat):Int)))(ha:Row w B A n 1 (jZ .u8 ls)):
 Calls prog 329 #[.pointer (some ⟨g,0,none⟩), .int .i64 (at_:Nat), .int .i64 (m:Nat)] w fun e w'=>e= .returned (.int .u64 (AK (BH ls) at_ m:Nat))/\w=w':=by
 have C:=hid (fun i h=>SO w g B A n c i ls hn hN h8 h hg ha);have HL:Hid ((BH ls).length=8*n):=by show _=_;rw[Fi,hn]
 generalize BH ls=bs at *;generalize hz:8*n=z at *;have U:z<=800000:=nj
 clear hn h8 ha hz;go_enter func329,ntmps329;go_wp2_with fail;go_loopw [7,8] (fun u j wr=>∃p x:Nat,at_<=p/\p<=at_+m/\j= .int .i64 (p:Nat)/\u= .int .u64 x/\Hid (x=AK bs at_ (p-at_))/\w=wr) (fun _ j _=>at_+m-(intOf j).toNat)
 case atStart=>exact⟨at_,0,nj,nj,rfl,rfl,by show 0=_;rw[G0];rfl,rfl⟩
 case round=>
  obtain⟨p,x,Y,N,rfl,rfl,hx,rfl⟩:=hrel;by_cases aa:p<at_+m
  ·have G:=Hq bs at_ (p-at_);rw[<-hx.out]at G;have J:x<9223372036854775808:=Ek G (by have:2 ^ (p-at_)<=2 ^ 63:=Cm nj nj;omega);have E:AK bs at_ (p+1-at_)=2*x+bit bs p:=(by rw[show p+1-at_=(p-at_)+1 by omega,AK,<-hx.out,show at_+(p-at_)=p by omega]);by_cases M:p<z
   ·have L:=EW bs p;have C2:=hid (C.out p M);generalize bit bs p=y at *;have HS:=hid E;clear E hx G;go_wp2_with fail;refine C2.out.mono ?_;rintro e w1 ⟨rfl,rfl⟩;go_wp2_with fail;go_roundw
    case measure=>exact jq
    case rel=>go_light;have e:bits .or .u64 ((x:Int)*2) (y:Int)=((2*x+y:Nat):Int):=(by rw[<-cD x y J L];congr 1;omega);exact⟨p+1,2*x+y,nj,nj,jr,by rw[e],HS.out.symm,trivial⟩
   ·rw[Gh (by rw[HL.out];omega)]at E;have HS:=hid E;clear E hx G;go_wp2_with fail;go_roundw
    case measure=>exact jq
    case rel=>go_light;exact⟨p+1,2*x,nj,nj,jr,jr,HS.out.symm,trivial⟩
  ·obtain rfl:p=at_+m:=by omega
   go_wp2_with fail;go_ret;exact⟨by rw[hx.out,I5];rfl,rfl⟩
theorem Ad8(w:World)(lo g:Nat)(bs:List Bool)(at_:Nat)(hR:Rd w lo g bs at_):
 Calls prog 297 #[.pointer (some ⟨g,0,none⟩)] w fun e w'=>e= .returned (.int .i64 ((bs.length-at_:Nat):Int))/\∃q,w'=w.drewN q:=by
 obtain⟨A,n,c,ls,h1,h2,h3,h4,h5,h6,h7⟩:=hR;have hl:bs.length=8*n:=by rw[h5,Fi,h3]
 rw[hl];have c1:=h1.ia 1;have c2:=h1.ia 2;have hz:8*n<=800000:=nj
 generalize 8*n=z at *;have s1:IntKind.i64.wrap ((z:Int)-(at_:Int))=((z-at_:Nat):Int):=pj
 clear h1 h2 h3 h4 h5 hl;go_enter func297,ntmps297;exact a1u
theorem iE(w:World)(lo g:Nat)(bs:List Bool)(at_ k:Nat)(hk:k<=100000)(hR:Rd w lo g bs at_):
 Calls prog 365 #[.pointer (some ⟨g,0,none⟩), .int .i64 (k:Nat)] w fun e w'=>e= .returned (.int .i64 (if at_+k<=bs.length then 0 else 1))/\Rd w' lo g bs (if at_+k<=bs.length then at_+k else at_)/\Kept (fun x=>x≠g) w w':=by
 have C:=hid (Ad8 w lo g bs at_ hR);have HR:=hid hR;have j:at_<=bs.length/\bs.length<=800000:=mz
 have c2:w.cell? ⟨g,2,none⟩=some (.int .i64 at_):=by obtain⟨A,n,c,ls,h1,_⟩:=hR;exact h1.cell 2
 have f2:w.frozen? ⟨g,2,none⟩=false:=by obtain⟨A,n,c,ls,h1,_⟩:=hR;exact h1.frozen 2
 obtain⟨z,hz⟩:=ii bs.length;rw[<-hz]at C j ⊢;have HZ:=hid hz;obtain⟨y,E⟩:=j;clear hR hz;by_cases i:at_+k<=z
 ·rw[Ab i,Ab i];have x1:(k:Int)<=((z-at_:Nat):Int):=by omega
  go_enter func365,ntmps365;go_wp2_with fail;refine C.out.mono ?_;rintro e w1 ⟨rfl,q,rfl⟩;go_wp2_with fail;go_ret;exact⟨rfl,(HR.out.drewN q).moved (by rw[<-HZ.out];exact i),Kept.set (p:=⟨g,2,none⟩) ((Kept.refl _ w).drewN q) (fun h=>h rfl) _⟩
 ·rw[Aa i,Aa i];have x1:¬(k:Int)<=((z-at_:Nat):Int):=by omega
  go_enter func365,ntmps365;go_wp2_with fail;refine C.out.mono ?_;rintro e w1 ⟨rfl,q,rfl⟩;go_wp2_with fail;go_ret;exact⟨rfl,HR.out.drewN q,(Kept.refl _ w).drewN q⟩
theorem gD(w:World)(lo g:Nat)(bs:List Bool)(at_ m:Nat)(hm:m<=64)(hR:Rd w lo g bs at_):
 Calls prog 363 #[.pointer (some ⟨g,0,none⟩), .int .i64 (m:Nat)] w fun e w'=>e= .returned (.tuple #[.int .u64 (AK bs at_ m:Nat), .int .i64 ((min m (bs.length-at_):Nat):Int)])/\∃q,w'=w.drewN q:=by
 have C1:=hid (fun q=>Ad8 (w.drewN q) lo g bs at_ (hR.drewN q));obtain⟨A,n,c,ls,h1,h2,h3,h4,h5,h6,h7⟩:=hR;have c0:=h1.ia 0;have c1:=h1.ia 1;have c2:=h1.ia 2;have C2:=hid (fun q=>(Ad7 (w.drewN q) g g A n c at_ m ls h3 h7 h4 h6 hm c0 c1 (h2.row.drewN q)).mono (fun e w' h=>And.intro h.1 h.2.symm));rw[<-h5]at C2;generalize bs.length-at_=d at *;generalize AK bs at_ m=y at *;clear h1 h2 h3 h4 h5 h6 c0 c1;go_enter func363,ntmps363;go_wp2_with fail;go_quiet (first|(go_at_call 329;exact C9 (C2.out _))|(go_at_call 297;exact Calls.quiet_of (C1.out _)));go_wp2_with fail
 all_goals
  go_ret2;refine⟨?_,_,rfl⟩
  first
  |(rw[show min m d=d by omega];rfl)
  |(rw[show min m d=m by omega];rfl)
theorem Rd.cellAt{at_:Nat}{bs:List Bool}(h:Rd w lo g bs at_):w.cell? ⟨g,2,none⟩=some (.int .i64 at_):=by obtain⟨A,n,c,ls,h1,_⟩:=h;exact h1.cell 2
theorem QU(w:World)(lo g:Nat)(bs:List Bool)(at_ m:Nat)(hm:m<=64)(hR:Rd w lo g bs at_)(q:Nat):
 Calls prog 329 #[.pointer (some ⟨g,0,none⟩), .int .i64 (at_:Nat), .int .i64 (m:Nat)] (w.drewN q) fun e w'=>e= .returned (.int .u64 (AK bs at_ m:Nat))/\w'=w.drewN q:=by
 obtain⟨A,n,c,ls,h1,h2,h3,h4,h5,h6,h7⟩:=hR;have c0:=h1.cell 0;have c1:=h1.cell 1;have h:=(Ad7 (w.drewN q) g g A n c at_ m ls h3 h7 h4 h6 hm c0 c1 (h2.row.drewN q)).mono (fun e w' h=>And.intro h.1 h.2.symm);rw[<-h5]at h;exact h
def Gw(bs:List Bool)(at_:Nat):Int:=if bs.length-at_≥8∨AK bs at_ (bs.length-at_)≠0 then 2 else 0
theorem a2g{p:Prop}(h:p:=by have j:=ig ((8:Int)<=d);go_wp2_with fail;go_quiet (first|(go_at_call 329;exact C9 (C2.out _)));go_wp2_with fail;go_ret;refine⟨rfl,?_⟩;rw[HQ.out];exact⟨_,Gy _ _ _⟩):p:=h
theorem aY(w:World)(lo g:Nat)(bs:List Bool)(at_:Nat)(hR:Rd w lo g bs at_):
 Calls prog 332 #[.pointer (some ⟨g,0,none⟩)] w fun e w'=>e= .returned (.int .i64 (Gw bs at_))/\∃q,w'=w.drewN q:=by
 have C1:=hid (Ad8 w lo g bs at_ hR);have HR:=hid hR;clear hR;by_cases h8:bs.length-at_<8
 ·by_cases h0:AK bs at_ (bs.length-at_)=0
  ·have hE:Gw bs at_=0:=(by unfold Gw;rw[Aa nj]);rw[hE];clear hE;have H0:=hid h0;clear h0;go_enter func332,ntmps332;go_wp2_with fail;refine C1.out.mono ?_;rintro e w1 ⟨rfl,q1,h⟩;have i:Rd w1 lo g bs at_:=qx;have c2:=i.cellAt;have HQ:=hid h;clear h;have C2:=hid (QU w1 lo g bs at_ (bs.length-at_) nj i);rw[H0.out]at C2;clear i;generalize bs.length-at_=d at *;exact a2g
  ·have hE:Gw bs at_=2:=(by unfold Gw;rw[Ab (.inr h0)]);rw[hE];clear hE;go_enter func332,ntmps332;go_wp2_with fail;refine C1.out.mono ?_;rintro e w1 ⟨rfl,q1,h⟩;have i:Rd w1 lo g bs at_:=qx;have c2:=i.cellAt;have HQ:=hid h;clear h;have C2:=hid (QU w1 lo g bs at_ (bs.length-at_) nj i);clear i;generalize bs.length-at_=d at *;generalize AK bs at_ d=y at *;have z:((y:Int) != 0)=true:=bne_iff_ne.mpr nj;clear h0;exact a2g
 ·have hE:Gw bs at_=2:=by unfold Gw;rw[Ab (.inl nj)]
  rw[hE];clear hE;go_enter func332,ntmps332;go_wp2_with fail;refine C1.out.mono ?_;rintro e w1 ⟨rfl,q1,h⟩;have i:Rd w1 lo g bs at_:=qx
  have c2:=i.cellAt;have HQ:=hid h;clear h;clear i;generalize bs.length-at_=d at *;have j:=ic ((8:Int)<=d)
  go_wp2_with fail;go_quiet (fail);go_wp2_with fail;go_ret;refine⟨rfl,?_⟩;rw[HQ.out];exact⟨_,Gy _ _ _⟩
theorem Tt(w:World)(A:Option Addr)(n c:Nat)(ls:List Nat)(hn:ls.length=n)(G:n<=100000)(h8:∀x∈ls,x<=255)(E:A=none->n=0/\c=0)(ha:Row w w A n 1 (jZ .u8 ls)):
 Calls prog 294 #[.slice A n c] w fun e w'=>∃g,e= .returned (.pointer (some ⟨g,0,none⟩))/\Rd w' w g (BH ls) 0/\w.heap.size<=g/\Below w w w':=by
 have C:=hid (IS w A n c ls hn G E ha);have HN:=hid hn;have H8:=hid h8;clear hn h8 E ha;go_enter func294,ntmps294;go_wp2_with fail;refine C.out.mono ?_;rintro e w1 ⟨v,rfl,y,J⟩;obtain⟨A1,c1,rfl⟩:=bZ y;have z1:=J.size;have z:=RowIn.of_own (f:=jZ .u8 ls) (s:=1) y rfl (fun i j hi hj=>by have e0:j=0:=nj;subst e0;exact Ab2 (by rw[HN.out];exact hi));have L:=hid z;clear y z C;go_wp2_with fail;go_ret;refine⟨_,rfl,⟨A1,n,c1,ls,?_,?_,HN.out,H8.out,rfl,nj,G⟩,z1,pZ z1 J⟩
 ·have h:=Blk.made w1 415 #[.slice A1 n c1, .int .i64 ((8*n:Nat):Int), .int .i64 ((0:Nat):Int)];simpa using h
 ·exact L.out.keep (fun p _ h=>World.cell?_alloc_lt (w:=w1) (a:=p) (o:=_) h)
theorem Np(h:0<cn ls l):Fy ls ls.length l=fst ls l:=by unfold Fy;rw[List.take_length,Aa nj]
theorem SK(h:cn ls l=0):Fy ls ls.length l=0:=by unfold Fy;rw[List.take_length,Ab h]
theorem QK(i:okB ls=true)(l:Nat)(hl:l<=15):Fy ls ls.length l+cn ls l<=65536:=by
 obtain⟨h1,h2,h3⟩:=Ab0 i;have h4:=Ku ls l;by_cases h:0<cn ls l
 ·rw[Np h];have h5:=NZ ls l hl;have h6:=LG ls (show l+1<=16 by omega);have h7:(fst ls l+cn ls l)*1<=(fst ls l+cn ls l)*2 ^ (15-l):=Nat.mul_le_mul_left _ (GA _);omega
 ·rw[SK nj];omega
theorem a2v{p:Prop}(h:p:=by go_enter func364,ntmps364;go_wp2_with fail;go_ret2;exact⟨rfl,rfl⟩):p:=h
theorem oR(w:World)(lo B g:Nat)(ls:List Nat)(y l k s:Nat)(j:okB ls=true)(hC:Coder w lo B g ls)(h0:0<l)(hl:l<=15)(hk:k<cn ls l)(hy:y=fst ls l+k)(hs:(Aa8 ls l)[k]? =some s):
 Calls prog 364 #[.pointer (some ⟨g,0,none⟩), .int .u64 (y:Nat), .int .i64 (l:Nat)] w fun e w'=>e= .returned (.tuple #[s,true])/\w=w':=by
 have hF:=QK j l hl;have c1:=hC.first l nj;have c2:=hC.many l nj;obtain⟨AS,cS,c3,i⟩:=hC.syms l nj;obtain⟨b,E,rfl,_,h⟩:=i nj;have c4:=h k 0 hk nj;have z:Fm ls l=Aa8 ls l:=by unfold Fm;rw[Aa nj]
 rw[z]at c4;have c5:w.cell? ⟨b,E+k,none⟩=some (.int .i64 s):=by simpa[jZ,List.getD_eq_getElem?_getD,hs]using c4
 rw[Np nj]at c1 hF;generalize fst ls l=F at *;generalize cn ls l=M at *;have G:s<=300:=by have h1:=(UL ls k s hs).1;have h2:=(CQ.1 h1).1;have h3:=(Ab0 j).1;omega
 have x0:(0:Int)<=(l:Int):=nj
 have x1:(l:Int)<16:=nj
 have x2:(0:Int)<=(k:Int):=nj
 have x3:(k:Int)<(M:Int):=nj
 have x4:¬(k:Int)<0:=nj
 have s1:IntKind.i64.wrap ((y:Int)-(F:Int))=(k:Int):=pj
 have s2:IntKind.i64.wrap (y:Int)=(y:Int):=Ar _ nj;clear hF i h c4 z hs j hC hy;exact a2v
theorem nV(w:World)(lo B g:Nat)(ls:List Nat)(y l:Nat)(j:okB ls=true)(hC:Coder w lo B g ls)(h0:0<l)(hl:l<=15)(G:y<=65535)(hy:y<fst ls l∨fst ls l+cn ls l<=y):
 Calls prog 364 #[.pointer (some ⟨g,0,none⟩), .int .u64 (y:Nat), .int .i64 (l:Nat)] w fun e w'=>e= .returned (.tuple #[ij,false])/\w=w':=by
 have hF:=QK j l hl;have c1:=hC.first l nj;have c2:=hC.many l nj
 have i:(y:Int)-(Fy ls ls.length l:Nat)<0∨((cn ls l:Nat):Int)<=(y:Int)-(Fy ls ls.length l:Nat):=by
  by_cases h:0<cn ls l
  ·rw[Np h];omega
  ·rw[SK nj];omega
 generalize Fy ls ls.length l=F at *;generalize cn ls l=M at *;have x0:(0:Int)<=(l:Int):=nj
 have x1:(l:Int)<16:=nj
 have s2:IntKind.i64.wrap (y:Int)=(y:Int):=Ar _ nj;obtain⟨z,hz⟩:∃z:Int,z=(y:Int)-(F:Int):=⟨_,rfl⟩;have s1:IntKind.i64.wrap ((y:Int)-(F:Int))=z:=by rw[Ar _ nj,hz]
 rw[<-hz]at i;clear j hC hy hF hz;by_cases E:z<0
 ·clear i;exact a2v
 ·have J:(M:Int)<=z:=by omega
  clear i;exact a2v
def meets(ls:List Nat)(y l k:Nat):Prop:=0<cn ls k/\y*2 ^ (k-l)<fst ls k+cn ls k/\fst ls k<y*2 ^ (k-l)+2 ^ (k-l)
instance (ls:List Nat) (y l k:Nat):Decidable (meets ls y l k):=by unfold meets;infer_instance
def Jv(ls:List Nat)(y l:Nat):Bool:=(List.range 16).any fun k=>decide (l<k/\meets ls y l k)
theorem Sx(h1:l<k)(h2:k<=15)(h3:meets ls y l k):Jv ls y l=true:=by unfold Jv;rw[List.any_eq_true];exact⟨k,Gl.2 nj,by simpa using ⟨h1,h3⟩⟩
theorem Q5(h:∀k,l<k->k<16->¬meets ls y l k):Jv ls y l=false:=by unfold Jv;rw[List.any_eq_false];intro k hk;have:=Gl.1 hk;simp only[decide_eq_true_eq,not_and];exact fun h1=>h k h1 this
theorem rE(h:∀x∈ls,x<=15)(X there:Nat):Jv ls (X / 2 ^ (15-there)) there=(List.range ls.length).any (Kk ls X there):=by
 cases hb:(List.range ls.length).any (Kk ls X there)
 ·refine Q5 fun k h1 h2 h3=> ?_;obtain⟨s,hs,hc⟩:=lR h1 h3.1 h3.2.1 h3.2.2;rw[List.any_eq_false]at hb;have:=hb s (Gl.2 (CQ.1 hs).1);exact this (SU.2 ⟨k,hs,h1,hc.symm⟩)
 ·rw[List.any_eq_true]at hb;obtain⟨s,_,hs⟩:=hb;obtain⟨k,hk,h1,hc⟩:=SU.1 hs;exact Sx h1 (h k (Bp hk)) (k7 h1 hk hc.symm)
theorem P0(n:Nat)(h:n<=65536):wrap64 (n:Int)=(n:Int):=JD _ nj
theorem UV(d:Nat):((2:Int) ^ d)=((2 ^ d:Nat):Int):=rX
theorem YH(y d:Nat)(h:y*2 ^ d<2 ^ 15):wrap64 ((y:Int)*2 ^ d)=((y*2 ^ d:Nat):Int):=by rw[UV,<-Int.natCast_mul];exact P0 _ nj
theorem aB(P d:Nat)(hP:P<2 ^ 15)(h:2 ^ d<=2 ^ 15):wrap64 ((P:Int)+wrap64 (2 ^ d))=(P:Int)+((2 ^ d:Nat):Int):=by rw[UV,P0 _ nj,<-Int.natCast_add];exact P0 _ nj
theorem a0z{p:Prop}(h:p:=by
  have z:∀j,l<j->j<k+1->¬meets ls y l j:=by
   intro j N ac;by_cases U:j=k
   ·rw[U];exact E
   ·exact J.out j N nj
  have Q:=hid z;clear hD e2 h1 h2 E z J G;go_quiet (fail);go_wp2_with fail;go_roundw
  case measure=>exact jq
  case rel=>exact jn):p:=h
theorem pT(w:World)(lo B g:Nat)(ls:List Nat)(y l:Nat)(ae:okB ls=true)(hC:Coder w lo B g ls)(hl:l<15)(hy:y<2 ^ l):
 Calls prog 366 #[.pointer (some ⟨g,0,none⟩), .int .u64 (y:Nat), .int .i64 (l:Nat)] w fun e w'=>e= .returned (.bool (Jv ls y l))/\∃q,w'=w.drewN q:=by
 have HC:=hid hC;have ai:=hid ae;have HY:=hid hy;have aj:y<=32768:=by have:2 ^ l<=2 ^ 15:=Cm nj nj;omega
 clear ae hC hy;go_enter func366,ntmps366;go_wp2_with fail;go_loopw [7] (fun i wr=>∃k:Nat,l<k/\k<=16/\i= .int .i64 k/\Hid (∀j,l<j->j<k->¬meets ls y l j)/\Hid (∃q,wr=w.drewN q)) (fun i _=>16-(intOf i).toNat)
 case atStart=>exact⟨l+1,nj,nj,jr,(fun j h1 h2=>by omega),⟨0,rfl⟩⟩
 case round=>
  obtain⟨k,ag,ak,rfl,J,L⟩:=hrel;by_cases af:k<16
  ·have ab:Coder wr lo B g ls:=(by obtain⟨q,hq⟩:=L.out;rw[hq];exact HC.out.keep (fun _ _ _=>rfl));have c1:=ab.first k af;have c2:=ab.many k af;have hF:=QK ai.out k nj;have aa:2 ^ (k-l)<=2 ^ 15:=Cm nj nj;have Y:y*2 ^ (k-l)<2 ^ 15:=by have h1:y*2 ^ (k-l)<2 ^ l*2 ^ (k-l):=Nat.mul_lt_mul_of_pos_right HY.out (GA _);rw[<-Nat.pow_add,show l+(k-l)=k by omega]at h1;have h2:2 ^ k<=2 ^ 15:=Cm nj nj;omega
   have Z:meets ls y l k↔0<cn ls k/\y*2 ^ (k-l)<Fy ls ls.length k+cn ls k/\Fy ls ls.length k<y*2 ^ (k-l)+2 ^ (k-l):=by
    unfold meets;by_cases h:0<cn ls k
    ·rw[Np h]
    ·constructor
     ·intro h1;exact absurd h1.1 h
     ·intro h1;exact absurd h1.1 h
   have x0:(0:Int)<=(k:Int):=nj;have x1:(k:Int)<16:=nj;have x2:(0:Int)<=(k:Int)-(l:Int):=nj;go_upto_region 5 with fail;obtain⟨D,hD⟩:=ii (2 ^ (k-l));obtain⟨P,hP⟩:=ii (y*D);rw[<-hD]at aa Y Z;rw[<-hP]at Y Z;generalize Fy ls ls.length k=F at *;generalize cn ls k=M at *;have e:=YH y (k-l) (by rw[<-hD,<-hP];exact Y);rw[<-hD,<-hP]at e;have e2:=aB P (k-l) Y (by rw[<-hD];exact aa);rw[<-hD]at e2;rw[e];clear e;have s1:IntKind.i64.wrap ((F:Int)+(M:Int))=(F:Int)+(M:Int):=Ar _ nj;have G:=hid Z;clear hP ab Z;by_cases hM:0<M
   ·by_cases h1:P<F+M
    ·have g1:=ic ((P:Int)<(F:Int)+(M:Int));by_cases h2:F<P+D
     ·have g2:decide ((F:Int)<wrap64 ((P:Int)+wrap64 (2 ^ (k-l))))=true:=(by rw[e2];simp;omega);have HA:=hid (Sx ag nj (G.out.2 ⟨hM,h1,h2⟩));clear hD e2 h1 h2;go_quiet (fail);go_wp2_with fail;go_ret;obtain⟨q,rfl⟩:=L.out;exact⟨by rw[HA.out];rfl,_,Gy _ _ _⟩
     ·have g2:decide ((F:Int)<wrap64 ((P:Int)+wrap64 (2 ^ (k-l))))=false:=(by rw[e2];simp;omega);have E:¬meets ls y l k:=fun h=>h2 (G.out.1 h).2.2
      exact a0z
    ·have g1:=ig ((P:Int)<(F:Int)+(M:Int));have E:¬meets ls y l k:=fun h=>h1 (G.out.1 h).2.1;have h2:=0
     exact a0z
   ·have ah:M=0:=nj;subst ah;have E:¬meets ls y l k:=fun h=>hM (G.out.1 h).1;have h1:=0;have h2:=0
    exact a0z
  ·obtain rfl:k=16:=by omega
   have HA:=hid (Q5 J.out);go_wp2_with fail;go_ret;exact⟨by rw[HA.out];rfl,L.out⟩
theorem OT(X d:Nat):((X / 2 ^ d:Nat):Int)=(X:Int) / 2 ^ d:=rX
theorem ZR(bs:List Bool)(at_:Nat):head bs at_<32768:=Hq bs at_ 15
theorem fO(X l:Nat)(hX:X<32768)(hl:l<=15):X / 2 ^ (15-l)<2 ^ l:=by
 apply Nat.div_lt_of_lt_mul
 rw[<-Nat.pow_add,show 15-l+l=15 by omega];omega
def MH(ls:List Nat)(bs:List Bool)(at_ lo g:Nat)(w:World)(e:Ending)(w':World):Prop:=
 e= .returned (.tuple #[.int .i64 (EP ls (head bs at_) (there bs at_)).1, .int .i64 (EP ls (head bs at_) (there bs at_)).2.1])/\
  Rd w' lo g bs (at_+(EP ls (head bs at_) (there bs at_)).2.2)/\Kept (fun x=>x≠g) w w'
theorem a2a{p:Prop}(h:p:=by rw[z]at C2 HG;clear M E y hG Y z;go_wp2_with fail;refine C2.out.mono ?_;rintro e w2 ⟨rfl,q2,rfl⟩;go_wp2_with fail;go_ret2;rw[HG.out];exact⟨rfl,Q.out.drewN q2,N.out.drewN q2⟩):p:=h
theorem SA(w:World)(G cB gc lo g:Nat)(ls:List Nat)(bs:List Bool)(at_:Nat)(ae:okB ls=true)(hC:Coder w G cB gc ls)(hR:Rd w lo g bs at_):
 Calls prog 353 #[.pointer (some ⟨gc,0,none⟩), .pointer (some ⟨g,0,none⟩)] w (MH ls bs at_ lo g w):=by
 have C1:=hid (gD w lo g bs at_ 15 nj hR);have hX:=ZR bs at_;have ag:there bs at_<=15:=by unfold there;omega
 have an:there bs at_<=bs.length-at_:=by unfold there;omega
 have am:at_<=bs.length:=by obtain⟨A,n,c,l,h1,h2,h3,h4,h5,h6,h7⟩:=hR;rw[h5,Fi,h3];exact h6
 change Hid (Calls _ _ _ _ fun e w'=>e= .returned (.tuple #[.int .u64 (head bs at_:Nat), .int .i64 (there bs at_:Nat)])/\∃q,w'=w.drewN q)at C1
 unfold MH;generalize head bs at_=X at *;generalize there bs at_=th at *;have HC:=hid hC;have HR:=hid hR;have J:=hid ae;clear hC hR ae;go_enter func353,ntmps353;go_wp2_with fail;refine C1.out.mono ?_;rintro e w1 ⟨rfl,q1,U⟩;have Z:Hid (Coder w1 G cB gc ls):=by show Coder w1 G cB gc ls;rw[U];exact HC.out.keep (fun _ _ _=>rfl)
 have Q:Hid (Rd w1 lo g bs at_):=by show Rd w1 lo g bs at_;rw[U];exact HR.out
 have N:Hid (Kept (fun x=>x≠g) w w1):=by show Kept _ w w1;rw[U];exact(Kept.refl _ w).drewN q1
 clear U C1;go_wp2_with fail;go_loopw [8] (fun i wr=>∃l:Nat,1<=l/\l<=th+1/\i= .int .i64 l/\Hid (∀s,hit ls X (l-1) s=false)/\w1=wr) (fun i _=>17-(intOf i).toNat)
 case atStart=>exact⟨1,nj,nj,rfl,mM ls X,rfl⟩
 case round=>
  obtain⟨l,ar,aq,rfl,E,rfl⟩:=hrel;by_cases ak:l<=th
  ·by_cases L:∃k,k<cn ls l/\X / 2 ^ (15-l)=fst ls l+k
   ·obtain⟨k,hk,hy⟩:=L;obtain⟨s,aa,ac,ab⟩:=YQ nj hk hy;have C2:=oR w1 G cB gc ls _ l k s J.out Z.out nj nj hk hy aa;rw[OT]at C2;have C2:=hid C2;have C3:=iE w1 lo g bs at_ l nj Q.out;rw[Ab nj,Ab nj]at C3;have C3:=hid C3;have HG:=hid (Sh J.out ac (Yv ak ab));clear hk hy aa ac ab E;go_wp2_with fail;refine C2.out.mono ?_;rintro e w2 ⟨rfl,rfl⟩;go_wp2_with fail;refine C3.out.mono ?_;rintro e w3 ⟨rfl,ai,al⟩;go_wp2_with fail;go_ret2;rw[HG.out];exact⟨rfl,ai,N.out.trans al⟩
   ·have hy:X / 2 ^ (15-l)<fst ls l∨fst ls l+cn ls l<=X / 2 ^ (15-l):=by
     by_cases h:X / 2 ^ (15-l)<fst ls l
     ·exact .inl h
     ·refine .inr (Nat.le_of_not_lt fun h2=>L ⟨X / 2 ^ (15-l)-fst ls l,nj,nj⟩)
    have af:=Ix X (2 ^ (15-l));have C2:=nV w1 G cB gc ls (X / 2 ^ (15-l)) l J.out Z.out nj nj nj hy;rw[OT]at C2;have C2:=hid C2;have y:∀s,hit ls X l s=false:=(by obtain⟨j,rfl⟩:∃j,l=j+1:=⟨l-1,nj⟩;exact nE E.out hy);have aj:=hid y;clear L hy af E y;go_wp2_with fail;refine C2.out.mono ?_;rintro e w2 ⟨rfl,rfl⟩;go_wp2_with fail;go_roundw
    case measure=>exact jq
    case rel=>go_light;exact⟨l+1,nj,nj,jr,aj.out,trivial⟩
  ·have M:l-1=th:=nj;have y:=E.out;rw[M]at y;have hG:=lM y;obtain⟨_,Y,_⟩:=Ab0 J.out;rw[<-rE Y]at hG;have HG:=hid hG;by_cases ah:th<15
   ·have C2:=pT w1 G cB gc ls (X / 2 ^ (15-th)) th J.out Z.out ah (fO X th hX ag);rw[OT]at C2;have C2:=hid C2;have x1:(th:Int)<15:=nj;cases z:Jv ls (X / 2 ^ (15-th)) th
    ·exact a2a
    ·exact a2a
   ·have z:Jv ls (X / 2 ^ (15-th)) th=false:=Q5 fun k h1 h2=>by omega
    rw[z]at HG;clear M E y hG Y z;go_wp2_with fail;go_ret2;rw[HG.out];exact⟨rfl,Q.out,N.out⟩
def Jp(bs:List Bool)(at_ m:Nat):Nat:=if at_+m<=bs.length then AK bs at_ m else 0
def Jn(bs:List Bool)(at_ m:Nat):Int:=if at_+m<=bs.length then 0 else 1
def Jl(bs:List Bool)(at_ m:Nat):Nat:=if at_+m<=bs.length then at_+m else at_
theorem Kz(w:World)(lo g:Nat)(bs:List Bool)(at_ m:Nat)(hm:m<=64)(hR:Rd w lo g bs at_):
 Calls prog 298 #[.pointer (some ⟨g,0,none⟩), .int .i64 (m:Nat)] w fun e w'=>e= .returned (.tuple #[.int .u64 (Jp bs at_ m:Nat), .int .i64 (Jn bs at_ m)])/\Rd w' lo g bs (Jl bs at_ m)/\Kept (fun x=>x≠g) w w':=by
 have C:=hid (Ad8 w lo g bs at_ hR);have HR:=hid hR;have z:at_<=bs.length/\bs.length<=800000:=mz
 obtain⟨M,L⟩:=z;have c2:=hR.cellAt;have f2:w.frozen? ⟨g,2,none⟩=false:=by obtain⟨A,n,c,ls,h1,_⟩:=hR;exact h1.frozen 2
 unfold Jp Jn Jl;by_cases i:at_+m<=bs.length
 ·rw[Ab i,Ab i,Ab i];have C2:=hid (QU w lo g bs at_ m hm hR);have x1:(m:Int)<=((bs.length-at_:Nat):Int):=by omega
  have E:=hid i;generalize AK bs at_ m=y at *;clear hR i;go_enter func298,ntmps298;go_wp2_with fail;refine C.out.mono ?_;rintro e w1 ⟨rfl,q,hq⟩;have j:Rd w1 lo g bs at_:=by rw[hq];exact HR.out.drewN q
  have d2:=j.cellAt;have g2:w1.frozen? ⟨g,2,none⟩=false:=by rw[hq];exact f2
  have C4:Hid (∀p,Calls prog 329 #[.pointer (some ⟨g,0,none⟩), .int .i64 (at_:Nat), .int .i64 (m:Nat)] (w1.drewN p) fun e w'=>e= .returned (.int .u64 (y:Nat))/\w'=w1.drewN p):=by intro p;have h:=C2.out (q+p);rw[hq,Gy];exact h
  have J:=hid j;have G:Hid (Kept (fun x=>x≠g) w w1):=by show Kept _ w w1;rw[hq];exact(Kept.refl _ w).drewN q
  clear hq j C C2 c2 f2;go_wp2_with fail;go_quiet (first|(go_at_call 329;exact C9 (C4.out _)));go_wp2_with fail;go_ret2;exact⟨rfl,(J.out.drewN _).moved E.out,Kept.set (p:=⟨g,2,none⟩) (G.out.drewN _) (fun h=>h rfl) _⟩
 ·rw[Aa i,Aa i,Aa i];have x1:¬(m:Int)<=((bs.length-at_:Nat):Int):=by omega
  clear hR;go_enter func298,ntmps298;go_wp2_with fail;refine C.out.mono ?_;rintro e w1 ⟨rfl,q,rfl⟩;go_wp2_with fail;go_ret2;exact⟨rfl,HR.out.drewN q,(Kept.refl _ w).drewN q⟩
def unC(bs:List Bool):Nat->Nat->Nat
 |_,0=>0
 |i,f+1=>if bit bs i=1 then 0 else unC bs (i+1) f+1
def unD(bs:List Bool)(at_:Nat):Nat:=unC bs at_ (bs.length-at_)
def unV(bs:List Bool)(at_:Nat):Nat:=if at_+unD bs at_<bs.length then unD bs at_ else 0
def unE(bs:List Bool)(at_:Nat):Int:=if at_+unD bs at_<bs.length then 0 else 1
def unA(bs:List Bool)(at_:Nat):Nat:=if at_+unD bs at_<bs.length then at_+unD bs at_+1 else at_
theorem Ym{bs:List Bool}{at_:Nat}(h:unD bs at_=i-at_+unC bs i (bs.length-i))(h1:at_<=i)(h2:i<bs.length)(hb:bit bs i=1):unV bs at_=i-at_/\unE bs at_=0/\unA bs at_=i+1:=by
 have e:bs.length-i=(bs.length-(i+1))+1:=nj
 rw[e,unC,Ab hb,Bt]at h;unfold unV unE unA;rw[h,Ab nj,Ab nj,Ab nj];exact⟨rfl,rfl,nj⟩
theorem Zr{bs:List Bool}{at_:Nat}(h:unD bs at_=i-at_+unC bs i (bs.length-i))(h1:at_<=i)(h2:i<bs.length)(hb:bit bs i≠1):unD bs at_=i+1-at_+unC bs (i+1) (bs.length-(i+1)):=by
 have e:bs.length-i=(bs.length-(i+1))+1:=nj
 rw[e,unC,Aa hb]at h;omega
theorem X5{bs:List Bool}{at_:Nat}(h:unD bs at_=i-at_+unC bs i (bs.length-i))(h1:at_<=i)(h2:i=bs.length):unV bs at_=0/\unE bs at_=1/\unA bs at_=at_:=by rw[h2,G0,unC]at h;unfold unV unE unA;rw[Aa nj,Aa nj,Aa nj];exact⟨rfl,rfl,rfl⟩
theorem eY(w:World)(lo g:Nat)(bs:List Bool)(at_:Nat)(hR:Rd w lo g bs at_):
 Calls prog 296 #[.pointer (some ⟨g,0,none⟩)] w fun e w'=>e= .returned (.tuple #[.int .i64 (unV bs at_:Nat), .int .i64 (unE bs at_)])/\Rd w' lo g bs (unA bs at_)/\Kept (fun x=>x≠g) w w':=by
 have HR:=hid hR;obtain⟨A,n,c,ls,h1,h2,h3,h4,h5,h6,h7⟩:=hR;have hl:bs.length=8*n:=by rw[h5,Fi,h3]
 have hz:bs.length<=800000:=nj
 have G:at_<=bs.length:=nj
 have c0:=h1.ia 0;have c1:=h1.ia 1;have c2:=h1.ia 2;have f2:=h1.frozen 2;rw[<-hl]at c1;have DB:=hid (fun i hi=>SO w g g A n c i ls h3 h7 h4 (by omega:i<8*n) c0 h2.row);rw[<-h5,<-hl]at DB;have H1:Hid (unD bs at_=at_-at_+unC bs at_ (bs.length-at_)):=by show _=_;unfold unD;omega
 clear h1 h2 h3 h4 h5 h6 h7 hl c0;obtain⟨z,y⟩:=ii bs.length;rw[<-y]at c1 hz G DB;have HZ:=hid y;clear y;go_enter func296,ntmps296;go_wp2_with fail;go_loopw [4] (fun iv wr=>∃i:Nat,at_<=i/\i<=z/\iv= .int .i64 i/\Hid (wr=w)/\Hid (unD bs at_=i-at_+unC bs i (bs.length-i))) (fun iv _=>z-(intOf iv).toNat)
 case atStart=>exact⟨at_,Ak _,G,rfl,rfl,H1.out⟩
 case round=>
  obtain⟨i,j,U,rfl,hw,HU⟩:=hrel;have hw:=hw.out;subst hw;clear H1;by_cases E:i<z
  ·have g1:=ic ((i:Int)<z);have Q:=ic (i<z);have D:=hid (DB.out i E);by_cases hb:bit bs i=1
   ·have UU:=hid (Ym HU.out j (by rw[<-HZ.out];exact E) hb);have N:IntKind.i64.wrap ((i:Int)-(at_:Int))=((i-at_:Nat):Int):=pj;have M:Hid (Rd (wr.setCell ⟨g,2,none⟩ (.int .i64 ((i:Int)+1))) lo g bs (i+1)):=(by have h:=HR.out.moved (k:=i+1-at_) (by rw[<-HZ.out];omega);rw[show((at_:Int)+((i+1-at_:Nat):Int))=(i:Int)+1 by omega,show at_+(i+1-at_)=i+1 by omega]at h;exact h);rw[hb]at D;clear hb HU DB;go_wp2_with fail;refine D.out.mono ?_;rintro e w1 ⟨rfl,rfl⟩;go_wp2_with fail;go_ret2;rw[UU.out.1,UU.out.2.1,UU.out.2.2];exact⟨rfl,M.out,(Kept.refl _ _).set (fun h=>h rfl) _⟩
   ·have J:bit bs i=0:=(by have:=EW bs i;omega);have L:=hid (Zr HU.out j (by rw[<-HZ.out];exact E) hb);rw[J]at D;clear hb J HU;go_wp2_with fail;refine D.out.mono ?_;rintro e w1 ⟨rfl,rfl⟩;go_wp2_with fail;go_roundw
    case measure=>exact jq
    case rel=>go_light;exact⟨i+1,nj,nj,iw,trivial,L.out⟩
  ·obtain rfl:i=z:=by omega
   have g1:=ig ((i:Int)<i);have UU:=hid (X5 HU.out j HZ.out);clear HU DB;go_wp2_with fail;go_ret2;rw[UU.out.1,UU.out.2.1,UU.out.2.2];exact⟨rfl,HR.out,Kept.refl _ _⟩
end Go.Proofs.YtfgdoknipbpfhaaGreatDoor
