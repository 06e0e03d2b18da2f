/- The walk of the refe -/
import Derived.Test.YtfgdoknipbpfhaaGreatDoorZTwoUnpacks3
import Derived.Deep.RegionLaw
import Derived.Deep.AppendLies
import Derived.BigRegion
import Derived.Laws.BitsLemmas
import Derived.Laws.Bits64b
namespace Go.Proofs.YtfgdoknipbpfhaaGreatDoor
open Go.Proofs.Tryz
open Go.Lib (hid)
set_option maxHeartbeats 1000000
set_option maxRecDepth 100000
variable{ls:List Nat}{B B' at_ base c g hi i k l lo lo' x y:Nat}{vc vl:Value}{w w':World}{t:TypeId}
namespace Huff
open Go.RowKit Mem Canon Own
def b01(bs:List Bool):List Nat:=bs.map fun b=>if b then 1 else 0
theorem Kc(bs:List Bool):(b01 bs).length=bs.length:=by simp[b01]
theorem L4(bs:List Bool)(i:Nat):(b01 bs).getD i 0=bit bs i:=by unfold b01 bit;rw[Ar,Ar,B0];cases bs[i]? <;>simp
theorem VN(k:IntKind)(l:List Nat)(x:Nat):cZ k (l++ [x])=cZ k l++ [.int k (x:Nat)]:=nk
end Huff
namespace Huff
open Go.RowKit Mem Canon Own
def EB(ls:List Nat)(l:Nat):List Nat:=if l=0 then []else symsOf ls l
theorem Ua(ls:List Nat)(l:Nat):(EB ls l).length=cn ls l:=by
 unfold EB cn;split
 ·rfl
 ·exact NR l ls
theorem Kh(hx:ls[k]? =some x)(h0:x≠0)(l:Nat):cn (ls.take (k+1)) l=cn (ls.take k) l+if x=l then 1 else 0:=by
 rw[FF hx];unfold cn;split
 ·rename_i h;subst h;rw[Aa h0]
 ·rw[Fy]
theorem Nb(hx:ls[k]? =some 0)(l:Nat):cn (ls.take (k+1)) l=cn (ls.take k) l:=by
 rw[FF hx];unfold cn;split
 ·rfl
 ·rw[Fy,Aa kR];rfl
theorem Yo(hx:ls[k]? =some x)(h0:x≠0)(l:Nat):EB (ls.take (k+1)) l=EB (ls.take k) l++if x=l then [k]else []:=by
 have hk:(ls.take k).length=k:=by have:=(Ch.1 hx).1;rw[AN];omega
 rw[FF hx];unfold EB;split
 ·rename_i h;subst h;rw[Aa h0];rfl
 ·rw[Ld,hk]
theorem X7(hx:ls[k]? =some 0)(l:Nat):EB (ls.take (k+1)) l=EB (ls.take k) l:=by
 rw[FF hx];unfold EB;split
 ·rfl
 ·rw[Ld,Aa kR,Fl]
def Ep(ls:List Nat)(k l:Nat):Nat:=if cn (ls.take k) l=0 then 0 else fst ls l
def upd(sv:Nat->Value)(l:Nat)(v:Value):Nat->Value:=fun m=>if m=l then v else sv m
structure Cells (ls:List Nat) (k:Nat) (vl vc:Value) (sv:Nat->Value) (cs:Array Value):Prop where
 size:cs.size=50
 lens:cs[0]? =some vl
 codes:cs[1]? =some vc
 first:∀l,l<16->cs[2+l]? =some (.int .i64 (Ep ls k l:Nat))
 many:∀l,l<16->cs[18+l]? =some (.int .i64 (cn (ls.take k) l:Nat))
 syms:∀l,l<16->cs[34+l]? =some (sv l)
theorem Cells.start(ls:List Nat)(vl vc:Value):Cells ls 0 vl vc (fun _=> .slice none 0 0)
 #[vl,vc, .int .i64 0, .int .i64 0, .int .i64 0, .int .i64 0, .int .i64 0, .int .i64 0, .int .i64 0, .int .i64 0, .int .i64 0, .int .i64 0, .int .i64 0, .int .i64 0, .int .i64 0, .int .i64 0, .int .i64 0, .int .i64 0,
  .int .i64 0, .int .i64 0, .int .i64 0, .int .i64 0, .int .i64 0, .int .i64 0, .int .i64 0, .int .i64 0, .int .i64 0, .int .i64 0, .int .i64 0, .int .i64 0, .int .i64 0, .int .i64 0, .int .i64 0, .int .i64 0,
  .slice none 0 0, .slice none 0 0, .slice none 0 0, .slice none 0 0, .slice none 0 0, .slice none 0 0, .slice none 0 0, .slice none 0 0, .slice none 0 0, .slice none 0 0, .slice none 0 0, .slice none 0 0, .slice none 0 0, .slice none 0 0, .slice none 0 0, .slice none 0 0]:=by
 have hc:∀l,cn (ls.take 0) l=0:=by intro l;simp[cn,I2]
 have hf:∀l,Ep ls 0 l=0:=by intro l;unfold Ep;rw[Ab (hc l)]
 refine⟨rfl,rfl,rfl,fun l hl=> ?_,fun l hl=> ?_,fun l hl=> ?_⟩
 ·rw[hf];have:l=0∨l=1∨l=2∨l=3∨l=4∨l=5∨l=6∨l=7∨l=8∨l=9∨l=10∨l=11∨l=12∨l=13∨l=14∨l=15:=by omega
  rcases this with rfl|rfl|rfl|rfl|rfl|rfl|rfl|rfl|rfl|rfl|rfl|rfl|rfl|rfl|rfl|rfl<;>rfl
 ·rw[hc];have:l=0∨l=1∨l=2∨l=3∨l=4∨l=5∨l=6∨l=7∨l=8∨l=9∨l=10∨l=11∨l=12∨l=13∨l=14∨l=15:=by omega
  rcases this with rfl|rfl|rfl|rfl|rfl|rfl|rfl|rfl|rfl|rfl|rfl|rfl|rfl|rfl|rfl|rfl<;>rfl
 ·have:l=0∨l=1∨l=2∨l=3∨l=4∨l=5∨l=6∨l=7∨l=8∨l=9∨l=10∨l=11∨l=12∨l=13∨l=14∨l=15:=by omega
  rcases this with rfl|rfl|rfl|rfl|rfl|rfl|rfl|rfl|rfl|rfl|rfl|rfl|rfl|rfl|rfl|rfl<;>rfl
theorem Cells.skip{sv:Nat->Value}{cs:Array Value}(h:Cells ls k vl vc sv cs)(hx:ls[k]? =some 0):Cells ls (k+1) vl vc sv cs:=by
 refine⟨h.size,h.lens,h.codes,fun l hl=> ?_,fun l hl=> ?_,h.syms⟩
 ·rw[h.first l hl];unfold Ep;rw[Nb hx]
 ·rw[h.many l hl,Nb hx]
theorem Cells.next{v:Value}{sv:Nat->Value}{cs:Array Value}(h:Cells ls k vl vc sv cs)(hx:ls[k]? =some x)(h0:x≠0)(i:x<=15)(hc:cn (ls.take k) x=c)(j:c≠0):
 Cells ls (k+1) vl vc (upd sv x v) ((cs.setIfInBounds (18+x) (.int .i64 ((c+1:Nat):Int))).setIfInBounds (34+x) v):=by
 have hs:=h.size;refine⟨by simpa using hs,?_,?_,fun l hl=> ?_,fun l hl=> ?_,fun l hl=> ?_⟩
 ·rw[Array.getElem?_setIfInBounds_ne kR,Array.getElem?_setIfInBounds_ne kR,h.lens]
 ·rw[Array.getElem?_setIfInBounds_ne kR,Array.getElem?_setIfInBounds_ne kR,h.codes]
 ·rw[Array.getElem?_setIfInBounds_ne kR,Array.getElem?_setIfInBounds_ne kR,h.first l hl];unfold Ep;rw[Kh hx h0];by_cases e:x=l
  ·subst e;rw[Aa kR,Aa mY]
  ·rw[Aa e];rfl
 ·rw[Array.getElem?_setIfInBounds_ne kR,GX,Kh hx h0];by_cases e:x=l
  ·subst e;rw[Ab rfl,Ab kR,Ab rfl,hc]
  ·rw[Aa kR,Aa e,h.many l hl];rfl
 ·rw[GX];unfold upd;by_cases e:x=l
  ·subst e;rw[Ab rfl,Ab ni,Ab rfl]
  ·rw[Aa kR,Aa (Br e),Array.getElem?_setIfInBounds_ne kR,h.syms l hl]
theorem Cells.fresh{v:Value}{sv:Nat->Value}{cs:Array Value}(h:Cells ls k vl vc sv cs)(hx:ls[k]? =some x)(h0:x≠0)(j:x<=15)(hc:cn (ls.take k) x=0):
 Cells ls (k+1) vl vc (upd sv x v) (((cs.setIfInBounds (2+x) (.int .i64 (code ls k:Nat))).setIfInBounds (18+x) (.int .i64 ((0+1:Nat):Int))).setIfInBounds (34+x) v):=by
 have hs:=h.size;have i:code ls k=fst ls x:=by rw[Ip hx h0];unfold cn at hc;rw[Aa h0]at hc;omega
 refine⟨by simpa using hs,?_,?_,fun l hl=> ?_,fun l hl=> ?_,fun l hl=> ?_⟩
 ·rw[Array.getElem?_setIfInBounds_ne kR,Array.getElem?_setIfInBounds_ne kR,Array.getElem?_setIfInBounds_ne kR,h.lens]
 ·rw[Array.getElem?_setIfInBounds_ne kR,Array.getElem?_setIfInBounds_ne kR,Array.getElem?_setIfInBounds_ne kR,h.codes]
 ·rw[Array.getElem?_setIfInBounds_ne kR,Array.getElem?_setIfInBounds_ne kR,GX];unfold Ep;rw[Kh hx h0];by_cases e:x=l
  ·subst e;rw[Ab rfl,Ab kR,Aa mY,i]
  ·rw[Aa kR,h.first l hl,Aa e];rfl
 ·rw[Array.getElem?_setIfInBounds_ne kR,GX,Kh hx h0];by_cases e:x=l
  ·subst e;rw[Ab rfl,Ab ni,Ab rfl,hc]
  ·rw[Aa kR,Aa e,Array.getElem?_setIfInBounds_ne kR,h.many l hl];rfl
 ·rw[GX];unfold upd;by_cases e:x=l
  ·subst e;rw[Ab rfl,Ab ni,Ab rfl]
  ·rw[Aa kR,Aa (Br e),Array.getElem?_setIfInBounds_ne kR,Array.getElem?_setIfInBounds_ne kR,h.syms l hl]
structure Rows (w:World) (base:Nat) (ls:List Nat) (k:Nat) (sv:Nat->Value):Prop where
 own:∀l,l<16->w.ownsRow base 3 1 (sv l) (cn (ls.take k) l) (cZ .i64 (EB (ls.take k) l))
 apart:∀l m x,l<16->m<16->l≠m->(sv l).ownBlock=some x->(sv m).ownBlock≠some x
theorem Rows.start(w:World)(base:Nat)(ls:List Nat):Rows w base ls 0 (fun _=> .slice none 0 0):=by
 refine⟨fun l hl=> ?_,fun l m x _ _ _ h=>by cases h⟩;have h1:cn (ls.take 0) l=0:=by simp[cn,I2]
 have h2:EB (ls.take 0) l= []:=by unfold EB;split<;>rfl
 rw[h1,h2];exact Aq _ _ _ _
theorem Rows.kept{sv:Nat->Value}(h:Rows w base ls k sv)(hk:∀l x,l<16->(sv l).ownBlock=some x->w'.heap[x]? =w.heap[x]?):Rows w' base ls k sv:=
 ⟨fun l hl=>dZ (h.own l hl) (fun x hx=>hk l x hl hx),h.apart⟩
theorem Rows.alloc{sv:Nat->Value}(h:Rows w base ls k sv)(o:Obj):Rows (w.alloc o) base ls k sv:=⟨fun l hl=>(h.own l hl).alloc o,h.apart⟩
theorem Rows.drew{sv:Nat->Value}(h:Rows w base ls k sv):Rows w.drew base ls k sv:=⟨h.own,h.apart⟩
theorem Rows.set{sv:Nat->Value}{cs:Array Value}(h:Rows w base ls k sv)(hg:Blk w g t cs)(ht:3≠t)(i:Nat)(u:Value):Rows (w.setCell ⟨g,i,none⟩ u) base ls k sv:=
 h.kept fun l x hl hx=>AJ w _ u x (fun e=>fZ (h.own l hl) hg ht (by rw[hx,e]))
theorem Rows.skip{sv:Nat->Value}(h:Rows w base ls k sv)(hx:ls[k]? =some 0):Rows w base ls (k+1) sv:=
 ⟨fun l hl=>by rw[Nb hx,X7 hx];exact h.own l hl,h.apart⟩
theorem Rows.push{w3:World}{g3 j:Nat}{sv:Nat->Value}(h:Rows w base ls k sv)(hx:ls[k]? =some x)(h0:x≠0)(E:x<=15)(hc:cn (ls.take k) x=c)
 (i:w3.ownsRow base 3 1 (.slice (some ⟨g3,0,none⟩) (c+1) j) (c+1) (cZ .i64 (EB (ls.take k) x)++ [.int .i64 (k:Nat)]))(hg:w.grownBy w3 (sv x).ownBlock)(z:(sv x).ownBlock=some g3∨g3=w.heap.size):
 Rows w3 base ls (k+1) (upd sv x (.slice (some ⟨g3,0,none⟩) (c+1) j)):=by
 refine⟨fun l hl=> ?_,fun a b y ha hb hab hy=> ?_⟩
 ·rw[Kh hx h0,Yo hx h0];unfold upd;by_cases e:l=x
  ·subst e;rw[Ab rfl,Ab rfl,Ab rfl,hc];simpa[cZ]using i
  ·rw[Aa e,Aa (Br e),Aa (Br e),Fl];refine(h.own l hl).kept hg ?_;cases hb:(sv l).ownBlock with
   |none=>exact .inl rfl
   |some y=>exact .inr (fun e2=>h.apart l x y hl kR e hb e2.symm)
 ·unfold upd at hy ⊢;by_cases e1:a=x
  ·subst e1;rw[Ab rfl]at hy;rw[Aa (Br hab)];have hy:g3=y:=(by simpa[Value.ownBlock]using hy);subst hy;rcases z with h1|h1
   ·exact h.apart a b g3 ha hb hab h1
   ·intro h2;have:=(Ae (h.own b hb) g3 h2).2;omega
  ·rw[Aa e1]at hy;by_cases e2:b=x
   ·subst e2;rw[Ab rfl];intro h2;have h2:g3=y:=(by simpa[Value.ownBlock]using h2);subst h2;rcases z with h1|h1
    ·exact h.apart a b g3 ha hb hab hy h1
    ·have:=(Ae (h.own a ha) g3 hy).2;omega
   ·rw[Aa e2];exact h.apart a b y ha hb hab hy
end Huff
namespace Huff
open Go.RowKit Mem Canon Own
def RowIn(w:World)(lo B:Nat)(A:Option Addr)(n s:Nat)(f:Nat->Nat->Value):Prop:=
 0<n->∃b off,A=some ⟨b,off,none⟩/\(lo<=b/\b<B)/\∀i j,i<n->j<s->w.cell? ⟨b,off+(i*s+j),none⟩=some (f i j)
section
variable {w w':World} {lo lo' B B' n s:Nat} {A:Option Addr} {f g:Nat->Nat->Value}
theorem RowIn.row(h:RowIn w lo B A n s f):Row w B A n s f:=fun hn=>by obtain⟨b,i,e,hb,hc⟩:=h hn;exact⟨b,i,e,hb.2,hc⟩
theorem RowIn.keep(h:RowIn w lo B A n s f)(hk:∀p:Addr,lo<=p.block->p.block<B->w'.cell? p=w.cell? p):RowIn w' lo B A n s f:=fun hn=>by obtain⟨b,y,e,hb,hc⟩:=h hn;exact⟨b,y,e,hb,fun i j hi hj=>(hk _ hb.1 hb.2).trans (hc i j hi hj)⟩
theorem RowIn.mono(h:RowIn w lo B A n s f)(hl:lo'<=lo)(hB:B<=B'):RowIn w lo' B' A n s f:=fun hn=>by obtain⟨b,i,e,hb,hc⟩:=h hn;exact⟨b,i,e,⟨kR,kR⟩,hc⟩
theorem RowIn.of_own{e:TypeId}{v:Value}{xs:List Value}(h:w.ownsRow base e s v n xs)(hv:v= .slice A n c)(hf:∀i j,i<n->j<s->xs[i*s+j]? =some (f i j)):RowIn w base w A n s f:=fun hn=>by
 rcases h.2 with ⟨_,h0⟩|⟨g,G,cur,z,hb,hh,J,_,E,y⟩
 ·omega
 ·rw[hv]at z;injection z with e1 e2 e3;refine⟨g,0,e1,⟨hb,Blk.lt hh⟩,fun i j hi hj=> ?_⟩;rw[BF,Blk.cell hh];have:=hf i j hi hj;rw[<-y,Iv]at this;split at this
  ·simpa using this
  ·cases this
theorem RowIn.of_blk{cs:Array Value}{b:Nat}(h:Blk w b t cs)(hl:lo<=b)(hB:b<B)(hf:∀i j,i<n->j<s->cs[i*s+j]? =some (f i j)):RowIn w lo B (some ⟨b,0,none⟩) n s f:=
 fun _=>⟨b,0,rfl,⟨hl,hB⟩,fun i j hi hj=>by rw[BF,h.cell];exact hf i j hi hj⟩
end
theorem numL_get{k:IntKind}(h:i<ls.length):(cZ k ls)[i*1+0]? =some (jZ k ls i 0):=by simp[cZ,jZ,List.getD_eq_getElem?_getD,h]
structure Coder (w:World) (lo B g:Nat) (ls:List Nat):Prop where
 ge:lo<=g
 lt:g<B
 free:∀i,w.frozen? ⟨g,i,none⟩=false
 lens:∃A c,w.cell? ⟨g,0,none⟩=some (.slice A ls.length c)/\RowIn w lo B A ls.length 1 (jZ .u8 ls)
 codes:∃A c,w.cell? ⟨g,1,none⟩=some (.slice A ls.length c)/\RowIn w lo B A ls.length 1 (fun i _=> .int .u16 (Db ls i:Nat))
 first:∀l,l<16->w.cell? ⟨g,2+l,none⟩=some (.int .i64 (Ep ls ls.length l:Nat))
 many:∀l,l<16->w.cell? ⟨g,18+l,none⟩=some (.int .i64 (cn ls l:Nat))
 syms:∀l,l<16->∃A c,w.cell? ⟨g,34+l,none⟩=some (.slice A (cn ls l) c)/\RowIn w lo B A (cn ls l) 1 (jZ .i64 (EB ls l))
theorem Coder.keep(h:Coder w lo B g ls)(hk:∀b,lo<=b->b<B->w'.heap[b]? =w.heap[b]?):Coder w' lo B g ls:=by
 have hg:=hk g h.ge h.lt;have hc:∀p:Addr,lo<=p.block->p.block<B->w'.cell? p=w.cell? p:=fun p h1 h2=>World.cell?_of_block (hk p.block h1 h2);have j:∀i,w'.cell? ⟨g,i,none⟩=w.cell? ⟨g,i,none⟩:=fun i=>World.cell?_of_block (a:=⟨g,i,none⟩) hg;refine⟨h.ge,h.lt,fun i=>(World.frozen?_of_block (a:=⟨g,i,none⟩) hg).trans (h.free i),?_,?_,fun l hl=>(j _).trans (h.first l hl),fun l hl=>(j _).trans (h.many l hl),fun l hl=> ?_⟩
 ·obtain⟨A,c,h1,h2⟩:=h.lens;exact⟨A,c,(j _).trans h1,h2.keep hc⟩
 ·obtain⟨A,c,h1,h2⟩:=h.codes;exact⟨A,c,(j _).trans h1,h2.keep hc⟩
 ·obtain⟨A,c,h1,h2⟩:=h.syms l hl;exact⟨A,c,(j _).trans h1,h2.keep hc⟩
theorem Coder.below(h:Coder w lo B g ls){C:Nat}(hb:Below C w w')(hC:B<=C):Coder w' lo B g ls:=
 h.keep fun b _ h2=>hb.block b kR
theorem Coder.mono(h:Coder w lo B g ls)(hl:lo'<=lo)(hB:B<=B'):Coder w lo' B' g ls:=by
 refine⟨by have:=h.ge;omega,by have:=h.lt;omega,h.free,?_,?_,h.first,h.many,fun l hx=> ?_⟩
 ·obtain⟨A,c,h1,h2⟩:=h.lens;exact⟨A,c,h1,h2.mono hl hB⟩
 ·obtain⟨A,c,h1,h2⟩:=h.codes;exact⟨A,c,h1,h2.mono hl hB⟩
 ·obtain⟨A,c,h1,h2⟩:=h.syms l hx;exact⟨A,c,h1,h2.mono hl hB⟩
theorem ZG{w2 wr:World}{gc n c2:Nat}{A2:Option Addr}{sv:Nat->Value}{cs arr:Array Value}(hn:ls.length=n)(J:lo<=w.heap.size)(z1:w.heap.size<=g)(hg:g=w2.heap.size)
 (blk:Blk wr g 364 cs)(hC:Cells ls n (.slice A2 n c2) (.slice (some ⟨gc,0,none⟩) n n) sv cs)(hR:Rows wr (g+1) ls n sv)(h:Below g w2 wr)
 (y:w2.ownsRow w 5 1 (.slice A2 n c2) n (cZ .u8 ls))(E:Blk w2 gc 25 arr)(G:lo<=gc)(hW:Wds ls n n arr):Coder wr lo wr g ls:=by
 subst hn hg;have rz:=h.size;have z:ls.take ls.length=ls:=BR (Ai _);refine⟨kR,blk.lt,blk.frozen,⟨A2,c2,(blk.cell 0).trans hC.lens,?_⟩,⟨some ⟨gc,0,none⟩,ls.length,(blk.cell 1).trans hC.codes,?_⟩,fun l hl=>(blk.cell _).trans (hC.first l hl),fun l hl=> ?_,fun l hl=> ?_⟩
 ·have:=RowIn.of_own (f:=jZ .u8 ls) y rfl (fun i j hi hj=>by have e0:j=0:=kR;subst e0;exact numL_get hi);exact(this.keep (fun p _ h2=>h.cell h2)).mono J rz
 ·have:=RowIn.of_blk (n:=ls.length) (s:=1) (lo:=lo) (B:=w2.heap.size) (f:=fun i _=> .int .u16 (Db ls i:Nat)) E G E.lt (fun i j hi hj=>by
   obtain rfl:j=0:=kR
   rw[EF,CT,hW.2 i hi,Ab hi])
  exact(this.keep (fun p _ h2=>h.cell h2)).mono (Ai _) rz
 ·have:=hC.many l hl;rw[z]at this;exact(blk.cell _).trans this
 ·have h1:=hR.own l hl;rw[z]at h1;obtain⟨A,c,e⟩:=aZ h1;have h2:=hC.syms l hl;rw[e]at h2;refine⟨A,c,(blk.cell _).trans h2,?_⟩;exact(RowIn.of_own (f:=jZ .i64 (EB ls l)) h1 e (fun i j hi hj=>by have e0:j=0:=kR;subst e0;exact numL_get (by rw[Ua];exact hi))).mono kR (Ai _)
end Huff
namespace Huff
open Go.RowKit Mem Canon Own
theorem Zo:(prog.info? 3).map (fun i=>(i.zero,i.size,i.bytes))=some (some (.int .i64 0),1,8):=kG
def TX(ls:List Nat)(w:World)(e:Ending)(w':World):Prop:=
 ∃g,e= .returned (.tuple #[.pointer (some ⟨g,0,none⟩),iT])/\Coder w' w w' g ls/\aO w w'
theorem new_any(w:World)(A:Option Addr)(n c:Nat)(ls:List Nat)(hn:ls.length=n)(ak:okB ls=true)(al:A=none->n=0/\c=0)(ha:Row w w A n 1 (jZ .u8 ls)):
 Calls prog 277 #[.slice A n c] w (TX ls w):=by
 obtain⟨aP,a0,_⟩:=Ii ak;rw[hn]at aP;have C1:=hid (aH w A n c ls hn ak ha);have C2:=hid (fun wx (h:Row wx wx A n 1 (jZ .u8 ls))=>Hp wx A n c ls hn kR al h);have HN:=hid hn;have a1:=hid a0;have a5:=hid ak;obtain⟨j0,ay,aX,aY,aR⟩:=info_parts Zo;clear hn ak a0 al;go_enter func277,ntmps277;go_wp2_with fail;refine C1.out.mono ?_;rintro e w1 ⟨gc,arr,rfl,bc,hw,a3,aq⟩;have z1:=aq.size;go_wp2_with fail;refine(C2.out _ ((ha.below aq).mono z1)).mono ?_;rintro e w2 ⟨vl,rfl,ai,au⟩;have z2:=au.size;have an:=bc.step au;have Q:aO w w2:=CM au z1 aq;have HW:=hid hw;have aQ:=an.lt;have a4:=(ha.below Q).mono Q.size;clear hw bc C1 C2;obtain⟨A2,c2,rfl⟩:=aZ ai;go_wp2_with fail;go_loopw [25] (fun i wr=>∃ (k:Nat) (sv:Nat->Value) (cs:Array Value),k<=n/\i= .int .i64 k/\Blk wr w2 364 cs/\Hid (Cells ls k (.slice A2 n c2) (.slice (some ⟨gc,0,none⟩) n n) sv cs)/\Hid (Rows wr (w2.heap.size+1) ls k sv)/\aO w2 wr) (fun i _=>n-(intOf i).toNat)
 case atStart=>exact⟨0,_,_,kR,rfl,Blk.made _ _ _,Cells.start ls _ _,Rows.start _ _ _,bZ (Ag _ _)⟩
 case round=>
  obtain⟨k,sv,cs,hk,rfl,blk,hC,hR,G⟩:=hrel;have rz:=G.size;by_cases av:k<n
  ·obtain⟨b,a6,x,rfl,ba,hx,c0⟩:=CD (a4.below G) HN.out av;have HX:=hid hx;have Z:=a1.out x (BP hx);have x0:(0:Int)<=(k:Int):=kR;have x1:(k:Int)<(n:Int):=kR;clear hx;by_cases ac:x=0
   ·subst ac;go_wp2_with fail;go_roundw
    case rel=>go_light;exact⟨k+1,sv,cs,kR,jx,blk,hC.out.skip HX.out,hR.out.skip HX.out,G⟩
    case measure=>exact jw
   ·have az:=IG (ls.take k) x;rw[AN]at az;have xp:0<x:=kR;have y0:(0:Int)<=(x:Int):=kR;have y1:(x:Int)<16:=kR;have m0:=blk.cell (18+x);rw[hC.out.many x kR]at m0;obtain⟨q,hq⟩:=iS (cn (ls.take k) x);rw[<-hq]at m0 az;have HQ:=hid hq;clear hq;by_cases aj:q=0
    ·have a9:((q:Int)==0)=true:=ni;have aT:=hid aj;clear aj;have d0:=(an.below G aQ).cell k;rw[HW.out.2 k av,Ab av]at d0;have f0:=blk.frozen (2+x);have f1:=blk.cell (2+x);rw[hC.out.first x kR]at f1;have ax:=QP a5.out HX.out ac;have aW:code ls k<65536:=Em ax (by have:2 ^ x<=2 ^ 15:=BQ kR Z;omega);have hv:Db ls k=code ls k:=Nat.mod_eq_of_lt aW;have L:=fun v=>hC.out.fresh (v:=v) HX.out ac Z (HQ.out.symm.trans aT.out);rw[hv]at d0;generalize code ls k=v at *;have aS:=hid L;clear hv L ax;go_upto_region 10 with fail;go_region;have E:=(blk.set (2+x) (.int .i64 (v:Nat))).drew;have ae:Hid (∀v',Cells ls (k+1) (.slice A2 n c2) (.slice (some ⟨gc,0,none⟩) n n) (upd sv x v') (((cs.setIfInBounds (2+x) (.int .i64 (v:Nat))).setIfInBounds (18+x) (.int .i64 ((q:Int)+1))).setIfInBounds (34+x) v')):=(by rw[aT.out];exact aS.out);clear aS;have N:(cs.setIfInBounds (2+x) (.int .i64 (v:Nat)))[18+x]? =some (.int .i64 ((q:Nat):Int)):=(by rw[Array.getElem?_setIfInBounds_ne kR,hC.out.many x kR,<-HQ.out]);have M:(cs.setIfInBounds (2+x) (.int .i64 (v:Nat)))[34+x]? =some (sv x):=(by rw[Array.getElem?_setIfInBounds_ne kR,hC.out.syms x kR]);have RA:=hid ((hR.out.set blk iX (2+x) (.int .i64 (v:Nat))).drew);have belA:=(kZ (p:=⟨w2.heap.size,2+x,none⟩) (u:= .int .i64 (v:Nat)) (Ai _) G).drew;have zA:=belA.size;clear m0 f0 f1 d0 c0 blk G rz;generalize cs.setIfInBounds (2+x) (.int .i64 (v:Nat))=a8 at *;generalize (wr.setCell ⟨w2.heap.size,2+x,none⟩ (.int .i64 (v:Nat))).drew=wA at *;have mA:=E.cell (18+x);rw[N]at mA;have fA:=E.frozen (18+x);have s1:IntKind.i64.wrap ((q:Int)+1)=(q:Int)+1:=Am _ kR;go_upto_region 11 with fail;go_region;clear s1 mA fA;have z:=(E.set (18+x) (.int .i64 ((q:Int)+1))).drew;have RB:=hid ((RA.out.set E iX (18+x) (.int .i64 ((q:Int)+1))).drew);have U:=(kZ (p:=⟨w2.heap.size,18+x,none⟩) (u:= .int .i64 ((q:Int)+1)) (Ai _) belA).drew;have zB:=U.size;have sB:=z.cell (34+x);rw[Array.getElem?_setIfInBounds_ne kR,M]at sB;have fB:=z.frozen (34+x);have j:=RB.out.own x kR;rw[<-HQ.out]at j;have ag:=fZ j z iX;obtain⟨AS,cS,ab⟩:=aZ j;have ah:=hid ab;rw[ab]at sB j ag;clear N M E RA belA zA ab;generalize (wA.setCell ⟨w2.heap.size,18+x,none⟩ (.int .i64 ((q:Int)+1))).drew=wB at *;have ar:=z.lt;have af:some w2.heap.size≠(Value.slice AS q cS).ownBlock:=Br ag;go_upto_region 12 with fail;go_region_law((refine step_append_lies _ kU _ _ _ kU (w2.heap.size+1) 3 j0 _ 1 8 underlying37 ay aX aY aR rfl kR (.slice AS q cS) q (cZ .i64 (EB (ls.take k) x)) kU ((j.alloc _).drew) ⟨wB,0,none⟩ 1 1 [.int .i64 (k:Nat)] kU kU (World.news_of_block (cs:=#[.int .i64 (k:Nat)]) (t:=3) (fr:=(0,0)) (heap_alloc_new wB _)) kA kR nI kR ni (wB.heap.size+1) mY ?_;intro g3 aV w3 aa J aw aU;have gb:w3.heap[w2.heap.size]? =wB.heap[w2.heap.size]? :=(J.block w2 ni af).trans (Ca wB _ w2 ar);have p3:=(World.cell?_of_block (a:=⟨w2.heap.size,34+x,none⟩) gb).trans sB;have p4:=(World.frozen?_of_block (a:=⟨w2.heap.size,34+x,none⟩) gb).trans fB))
     all_goals
      go_wp2_with fail;go_roundw
      case measure=>exact jw
      case rel=>go_light;have Y:Blk w3 w2 364 _:=gb.trans z;have am:=Rows.push ((RB.out.alloc _).drew) HX.out ac Z HQ.out.symm aa (by rw[ah.out];exact J) (by rw[ah.out];simpa using aw);refine⟨k+1,_,_,kR,jx,Y.set _ _,ae.out _,am.set Y iX _ _,kZ (p:=⟨w2.heap.size,34+x,none⟩) (Ai _) (((lZ zB U).drew).grown J ni (fun y hy=> ?_))⟩;have:=(Ae j y hy).1;omega
    ·have a7:((q:Int)==0)=false:=ni;have L:=fun v=>hC.out.next (v:=v) HX.out ac Z HQ.out.symm aj;have ae:Hid (∀v',Cells ls (k+1) (.slice A2 n c2) (.slice (some ⟨gc,0,none⟩) n n) (upd sv x v') ((cs.setIfInBounds (18+x) (.int .i64 ((q:Int)+1))).setIfInBounds (34+x) v')):=L;have N:cs[18+x]? =some (.int .i64 ((q:Nat):Int)):=(by rw[hC.out.many x kR,<-HQ.out]);have M:=hC.out.syms x kR;have RA:=hR;have belA:=G;have zA:=rz;have E:=blk;obtain⟨wA,rfl⟩:=iS wr;clear blk G rz L aj;have mA:=E.cell (18+x);rw[N]at mA;have fA:=E.frozen (18+x);have s1:IntKind.i64.wrap ((q:Int)+1)=(q:Int)+1:=Am _ kR;go_upto_region 11 with fail;go_region;clear s1 mA fA;have z:=(E.set (18+x) (.int .i64 ((q:Int)+1))).drew;have RB:=hid ((RA.out.set E iX (18+x) (.int .i64 ((q:Int)+1))).drew);have U:=(kZ (p:=⟨w2.heap.size,18+x,none⟩) (u:= .int .i64 ((q:Int)+1)) (Ai _) belA).drew;have zB:=U.size;have sB:=z.cell (34+x);rw[Array.getElem?_setIfInBounds_ne kR,M]at sB;have fB:=z.frozen (34+x);have j:=RB.out.own x kR;rw[<-HQ.out]at j;have ag:=fZ j z iX;obtain⟨AS,cS,ab⟩:=aZ j;have ah:=hid ab;rw[ab]at sB j ag;clear N M E RA belA zA ab;generalize (wA.setCell ⟨w2.heap.size,18+x,none⟩ (.int .i64 ((q:Int)+1))).drew=wB at *;have ar:=z.lt;have af:some w2.heap.size≠(Value.slice AS q cS).ownBlock:=Br ag;go_upto_region 12 with fail;go_region_law((refine step_append_lies _ kU _ _ _ kU (w2.heap.size+1) 3 j0 _ 1 8 underlying37 ay aX aY aR rfl kR (.slice AS q cS) q (cZ .i64 (EB (ls.take k) x)) kU ((j.alloc _).drew) ⟨wB,0,none⟩ 1 1 [.int .i64 (k:Nat)] kU kU (World.news_of_block (cs:=#[.int .i64 (k:Nat)]) (t:=3) (fr:=(0,0)) (heap_alloc_new wB _)) kA kR nI kR ni (wB.heap.size+1) mY ?_;intro g3 aV w3 aa J aw aU;have gb:w3.heap[w2.heap.size]? =wB.heap[w2.heap.size]? :=(J.block w2 ni af).trans (Ca wB _ w2 ar);have p3:=(World.cell?_of_block (a:=⟨w2.heap.size,34+x,none⟩) gb).trans sB;have p4:=(World.frozen?_of_block (a:=⟨w2.heap.size,34+x,none⟩) gb).trans fB))
     all_goals
      go_wp2_with fail;go_roundw
      case measure=>exact jw
      case rel=>go_light;have Y:Blk w3 w2 364 _:=gb.trans z;have am:=Rows.push ((RB.out.alloc _).drew) HX.out ac Z HQ.out.symm aa (by rw[ah.out];exact J) (by rw[ah.out];simpa using aw);refine⟨k+1,_,_,kR,jx,Y.set _ _,ae.out _,am.set Y iX _ _,kZ (p:=⟨w2.heap.size,34+x,none⟩) (Ai _) (((lZ zB U).drew).grown J ni (fun y hy=> ?_))⟩;have:=(Ae j y hy).1;omega
  ·obtain rfl:k=n:=by omega
   go_wp2_with fail;go_ret2;exact⟨w2.heap.size,rfl,ZG HN.out z1 z2 rfl blk hC.out hR.out G ai an a3 HW.out,Q.trans (G.mono Q.size)⟩
end Huff
namespace Huff
open Go.RowKit Mem Canon Own
theorem Coder.drew(h:Coder w lo B g ls):Coder w.drew lo B g ls:=h.keep fun _ _ _=>rfl
theorem Coder.kept{K:Nat->Prop}(h:Coder w lo B g ls)(hk:Kept K w w')(hK:∀k,lo<=k->k<B->K k):Coder w' lo B g ls:=h.keep fun b h1 h2=>hk.block b (hK b h1 h2)
end Huff
namespace Canon
open Huff
def zrun(ls:List Nat)(i:Nat):Nat->Nat
 |0=>0
 |c+1=>if ls[i]? =some 0 then zrun ls (i+1) c+1 else 0
def wrGo(ls:List Nat):Nat->Nat->List Bool
 |0,_=> []
 |f+1,i=>
  if i<ls.length then
   if ls.getD i 0=0 then msb 0 4 4++(msb (zrun ls i 64-1) 6 6++wrGo ls f (i+zrun ls i 64))
   else msb (ls.getD i 0) 4 4++wrGo ls f (i+1)
  else []
def PR(ls:List Nat):List Bool:=wrGo ls ls.length 0
end Canon
namespace Huff
open Go.RowKit Mem Canon Own
end Huff
namespace Huff
open Go.RowKit Mem Canon Own
structure RCo (w:World) (lo B:Nat) (vl vc:Value) (ls:List Nat):Prop where
 lens:∃A c,vl= .slice A ls.length c/\RowIn w lo B A ls.length 1 (jZ .u8 ls)
 codes:∃A c,vc= .slice A ls.length c/\RowIn w lo B A ls.length 1 (fun i _=> .int .u16 (Db ls i:Nat))
theorem RCo.kept{K:Nat->Prop}(h:RCo w lo B vl vc ls)(hk:Kept K w w')(hK:∀k,lo<=k->k<B->K k):RCo w' lo B vl vc ls:=by have hc:∀p:Addr,lo<=p.block->p.block<B->w'.cell? p=w.cell? p:=fun p h1 h2=>World.cell?_of_block (hk.block p.block (hK _ h1 h2));obtain⟨A,c,e,hr⟩:=h.lens;obtain⟨A',c',e',i⟩:=h.codes;exact⟨⟨A,c,e,hr.keep hc⟩,⟨A',c',e',i.keep hc⟩⟩
theorem RCo.mono(h:RCo w lo B vl vc ls)(hl:lo'<=lo)(hB:B<=B'):RCo w lo' B' vl vc ls:=by obtain⟨A,c,e,hr⟩:=h.lens;obtain⟨A',c',e',i⟩:=h.codes;exact⟨⟨A,c,e,hr.mono hl hB⟩,⟨A',c',e',i.mono hl hB⟩⟩
def YH(ls:List Nat)(w:World)(e:Ending)(w':World):Prop:=
 ∃vl vc,e= .returned (.tuple #[.agg #[vl,vc],iT])/\RCo w' w w' vl vc ls/\aO w w'
theorem XK:(prog.info? 272).map (·.size)=some 2:=kG
theorem rnew_any(w:World)(A:Option Addr)(n c:Nat)(ls:List Nat)(hn:ls.length=n)(Y:okB ls=true)(N:A=none->n=0/\c=0)(ha:Row w w A n 1 (jZ .u8 ls)):
 Calls prog 206 #[.slice A n c] w (YH ls w):=by
 obtain⟨j0,af,aj,ak,ah⟩:=info_parts Ct;obtain⟨ae,_,_⟩:=Ii Y;rw[hn]at ae;have C:=hid (fun wx (h:Row wx wx A n 1 (jZ .u8 ls))=>Zi wx A n c ls hn Y h);have HN:=hid hn;have aa:=hid N;clear hn Y N;go_enter func206,ntmps206;go_wp2_with fail;refine(C.out _ ((ha.alloc (Ai _) _).mono mY)).mono ?_;rintro e w1 ⟨vc,rfl,L,M⟩;obtain⟨AC,cC,rfl⟩:=aZ L;have z1:=M.size;simp at z1;have y:Blk w1 w 272 _:=(Blk.made w _ _).step M;have ag:=y.lt;have z:aO w w1:=(bZ (Ag _ _)).trans (M.mono mY);have E:=Ig (c:=c) (ha.below z) HN.out aa.out
 have Q:Src (w1.alloc (.cells #[] 5)) A n c 1 (cZ .u8 ls):=by
  refine⟨E.1,?_⟩;rcases E.2 with h|⟨ad,h1,h2⟩
  ·exact .inl h
  ·refine .inr ⟨ad,h1,fun j u hu=> ?_⟩;have hc:=h2 j u hu;exact(World.cell?_of_block (Ca w1 _ _ (World.block_lt_of_cell? _ _ hc))).trans hc
 have U:(w1.alloc (.cells #[] 5)).ownsRow w1 5 1 (.slice (some ⟨w1,0,none⟩) 0 0) 0 []:=World.ownsRow_made w1 #[] 0 (Ai _) nI rfl;have c0:=y.iO 0;have c1:=y.iO 1;have f0:=y.frozen 0;have f1:=y.frozen 1;have ab:=hid Q;have HB:=hid z;have ai:=hid L;clear E Q z ha C M L;go_wp2_with(at_builtin;refine gZ rfl (.tmp 15) (.tmp 16) 28 rfl w1 5 j0 _ 1 1 underlying28 af aj ak ah rfl iX _ _ _ kU U _ n _ (cZ .u8 ls) kU ab.out (Cn _ _) nI kR mY ?_;intro v3 w3 G Z al;obtain⟨A3,c3,rfl⟩:=aZ G;have gb:=(Z.block w ni (by simp[Value.ownBlock];omega)).trans (Ca w1 _ _ ag);have p0:=(World.cell?_of_block (a:=⟨w,0,none⟩) gb).trans c0;have p1:=(World.cell?_of_block (a:=⟨w,1,none⟩) gb).trans c1;have q0:=(World.frozen?_of_block (a:=⟨w,0,none⟩) gb).trans f0;have q1:=(World.frozen?_of_block (a:=⟨w,1,none⟩) gb).trans f1);rw[BF,GF]at G;have ac:Blk w3 w _ _:=gb.trans y;have J:aO w1 w3:=(bZ (Ag _ _)).grown Z mY (fun k hk=>by simp[Value.ownBlock]at hk;omega);have z3:=J.size;refine AV (Canon.results_cell_tmp rfl _ _ w.heap.size _ #[.slice A3 n c3, .slice AC n cC] _ (.int .i64 0) rfl rfl ((ac.set 0 (.slice A3 n c3)).set 1 (.slice AC n cC)) underlying272 rfl XK) rfl ⟨_,_,rfl,⟨⟨A3,c3,by rw[HN.out],?_⟩,⟨AC,cC,by rw[HN.out],?_⟩⟩,?_⟩
 ·have h:=RowIn.of_own (f:=jZ .u8 ls) (s:=1) G rfl (fun i j hi hj=>by have e0:j=0:=kR;subst e0;exact numL_get (by rw[HN.out];exact hi));rw[HN.out];refine(h.keep fun p h1 _=>World.cell?_of_block ?_).mono kR mY;exact(AJ _ _ _ _ ni).trans (AJ _ _ _ _ ni)
 ·have h:=RowIn.of_own (f:=fun i _=> .int .u16 (Db ls i:Nat)) (s:=1) ai.out rfl (fun i j hi hj=>by have e0:j=0:=kR;subst e0;simp[hi]);rw[HN.out];refine(h.keep fun p h1 h2=>World.cell?_of_block ?_).mono mY ni;simp at h1;exact((AJ _ _ _ _ ni).trans (AJ _ _ _ _ ni)).trans (J.block _ h2)
 ·exact kZ (p:=⟨w,1,none⟩) (Ai _) (kZ (p:=⟨w,0,none⟩) (Ai _) (HB.out.trans (J.mono kR)))
end Huff
namespace Huff
open Go.RowKit Mem Canon Own
def Rd(w:World)(lo g:Nat)(bs:List Bool)(at_:Nat):Prop:=
 ∃ (A:Option Addr) (n c:Nat) (ls:List Nat),Blk w g 415 #[.slice A n c, .int .i64 ((8*n:Nat):Int),at_]/\RowIn w lo g A n 1 (jZ .u8 ls)/\ls.length=n/\(∀x∈ls,x<=255)/\bs=Bg ls/\at_<=8*n/\n<=100000
theorem Rd.keep{bs:List Bool}(h:Rd w lo g bs at_)(hk:∀b,lo<=b->b<=g->w'.heap[b]? =w.heap[b]?)(i:lo<=g):Rd w' lo g bs at_:=by obtain⟨A,n,c,ls,h1,h2,h3⟩:=h;exact⟨A,n,c,ls,(hk g i (Ai _)).trans h1,h2.keep (fun p ha hb=>World.cell?_of_block (hk p.block ha kR)),h3⟩
theorem Rd.drew{bs:List Bool}(h:Rd w lo g bs at_):Rd w.drew lo g bs at_:=h
theorem Rd.drewN{bs:List Bool}(h:Rd w lo g bs at_)(q:Nat):Rd (w.drewN q) lo g bs at_:=h
theorem Rd.moved{bs:List Bool}(h:Rd w lo g bs at_)(hk:at_+k<=bs.length):Rd (w.setCell ⟨g,2,none⟩ (.int .i64 ((at_:Int)+(k:Int)))) lo g bs (at_+k):=by
 obtain⟨A,n,c,ls,h1,h2,h3,h4,h5,h6,h7⟩:=h;refine⟨A,n,c,ls,?_,h2.keep (fun p _ hb=>World.cell?_of_block (AJ w _ _ _ (show p.block≠g by omega))),h3,h4,h5,?_,h7⟩
 ·have h:=h1.set 2 (.int .i64 ((at_:Int)+(k:Int)));simpa using h
 ·rw[h5,Dy]at hk;omega
theorem Rd.lt{bs:List Bool}(h:Rd w lo g bs at_):g<w.heap.size:=by obtain⟨A,n,c,ls,h1,_⟩:=h;exact h1.lt
theorem TF(y:Nat)(hy:y<18446744073709551616):bits .and .u64 (y:Int) 1=((y % 2:Nat):Int):=by have h:=bits_and_u64_nat y 1 hy kR;rw[Nat.and_one_is_mod]at h;exact h
theorem Z9(x y:Nat)(hx:x<9223372036854775808)(hy:y<=1):bits .or .u64 ((2*x:Nat):Int) (y:Int)=((2*x+y:Nat):Int):=by rw[bits_or_u64_nat _ _ kR kR];congr 1;have h:=Nat.two_pow_add_eq_or_of_lt (b:=y) (i:=1) kR x;rw[show 2 ^ 1=2 from rfl]at h;exact h.symm
theorem Oy(w:World)(g B:Nat)(A:Option Addr)(n c i:Nat)(ls:List Nat)(hn:ls.length=n)(hN:n<=100000)(h8:∀x∈ls,x<=255)(hi:i<8*n)(hg:w.cell? ⟨g,0,none⟩=some (.slice A n c))(ha:Row w B A n 1 (jZ .u8 ls)):
 Calls prog 328 #[.pointer (some ⟨g,0,none⟩), .int .i64 (i:Nat)] w fun e w'=>e= .returned (.int .u64 (bit (Bg ls) i:Nat))/\w=w':=by
 have hv:=Pt (ls:=ls) (i:=i) kR;obtain⟨b,z,x,rfl,hb,hx,d0⟩:=CD ha hn (show i / 8<n by omega);have j:=h8 x (BP hx);have h:ls.getD (i / 8) 0=x:=by simp[List.getD_eq_getElem?_getD,hx]
 rw[h]at hv;rw[hv];have x0:(0:Int)<=(i:Int) / 8:=kR
 have x1:(i:Int) / 8<(n:Int):=kR
 have x2:(0:Int)<=7-(i:Int) % 8:=kR
 clear hv h hx h8 hn ha;go_enter func328,ntmps328;go_wp2_with fail;go_ret;refine⟨?_,rfl⟩;have e:((x:Int) / 2 ^ (7-i % 8))=((x / 2 ^ (7-i % 8):Nat):Int):=mY
 have E:=Hh x (2 ^ (7-i % 8));show Ending.returned (.int .u64 (bits .and .u64 (IntKind.u64.wrap ((x:Int) / 2 ^ (7-i % 8))) 1))=_;rw[e];generalize x / 2 ^ (7-i % 8)=y at *;rw[show IntKind.u64.wrap (y:Int)=(y:Int) by rw[BD];omega,TF y kR]
theorem number_any(w:World)(g B:Nat)(A:Option Addr)(n c at_ m:Nat)(ls:List Nat)(hn:ls.length=n)(hN:n<=100000)(h8:∀x∈ls,x<=255)(aa:at_<=8*n)(hm:m<=64)(hg:w.cell? ⟨g,0,none⟩=some (.slice A n c))(Y:w.cell? ⟨g,1,none⟩=some (.int .i64 ((8*n:Nat):Int)))(ha:Row w B A n 1 (jZ .u8 ls)):
 Calls prog 329 #[.pointer (some ⟨g,0,none⟩), .int .i64 (at_:Nat), .int .i64 (m:Nat)] w fun e w'=>e= .returned (.int .u64 (yZ (Bg ls) at_ m:Nat))/\w=w':=by
 have C:=hid (fun i h=>Oy w g B A n c i ls hn hN h8 h hg ha);have HL:Hid ((Bg ls).length=8*n):=by show _=_;rw[Dy,hn]
 generalize Bg ls=bs at *;generalize hz:8*n=z at *;have N:z<=800000:=kR
 clear hn h8 ha hz;go_enter func329,ntmps329;go_wp2_with fail;go_loopw [7,8] (fun u j wr=>∃p x:Nat,at_<=p/\p<=at_+m/\j= .int .i64 (p:Nat)/\u= .int .u64 x/\Hid (x=yZ bs at_ (p-at_))/\w=wr) (fun _ j _=>at_+m-(intOf j).toNat)
 case atStart=>exact⟨at_,0,kR,kR,rfl,rfl,by show 0=_;rw[Fj];rfl,rfl⟩
 case round=>
  obtain⟨p,x,U,Q,rfl,rfl,hx,rfl⟩:=hrel;by_cases Z:p<at_+m
  ·have G:=Ev bs at_ (p-at_);rw[<-hx.out]at G;have J:x<9223372036854775808:=Em G (by have:2 ^ (p-at_)<=2 ^ 63:=BQ kR kR;omega);have E:yZ bs at_ (p+1-at_)=2*x+bit bs p:=(by rw[show p+1-at_=(p-at_)+1 by omega,yZ,<-hx.out,show at_+(p-at_)=p by omega]);by_cases M:p<z
   ·have L:=E6 bs p;have C2:=hid (C.out p M);generalize bit bs p=y at *;have HS:=hid E;clear E hx G;go_wp2_with fail;refine C2.out.mono ?_;rintro e w1 ⟨rfl,rfl⟩;go_wp2_with fail;go_roundw
    case measure=>exact jw
    case rel=>go_light;have e:bits .or .u64 ((x:Int)*2) (y:Int)=((2*x+y:Nat):Int):=(by rw[<-Z9 x y J L];congr 1;omega);exact⟨p+1,2*x+y,kR,kR,jx,by rw[e],HS.out.symm,trivial⟩
   ·rw[Q0 (by rw[HL.out];omega)]at E;have HS:=hid E;clear E hx G;go_wp2_with fail;go_roundw
    case measure=>exact jw
    case rel=>go_light;exact⟨p+1,2*x,kR,kR,jx,jx,HS.out.symm,trivial⟩
  ·obtain rfl:p=at_+m:=by omega
   go_wp2_with fail;go_ret;exact⟨by rw[hx.out,Mi];rfl,rfl⟩
theorem left_any(w:World)(lo g:Nat)(bs:List Bool)(at_:Nat)(hR:Rd w lo g bs at_):
 Calls prog 297 #[.pointer (some ⟨g,0,none⟩)] w fun e w'=>e= .returned (.int .i64 ((bs.length-at_:Nat):Int))/\∃q,w'=w.drewN q:=by
 obtain⟨A,n,c,ls,h1,h2,h3,h4,h5,h6,h7⟩:=hR;have hl:bs.length=8*n:=by rw[h5,Dy,h3]
 rw[hl];have c1:=h1.iO 1;have c2:=h1.iO 2;have hz:8*n<=800000:=kR
 generalize 8*n=z at *;have s1:IntKind.i64.wrap ((z:Int)-(at_:Int))=((z-at_:Nat):Int):=lD
 clear h1 h2 h3 h4 h5 hl;go_enter func297,ntmps297;go_wp2_with fail;go_quiet (fail);go_wp2_with fail;go_ret;exact⟨rfl,_,rfl⟩
theorem Ys(w:World)(lo g:Nat)(bs:List Bool)(at_ k:Nat)(hk:k<=100000)(hR:Rd w lo g bs at_):
 Calls prog 365 #[.pointer (some ⟨g,0,none⟩), .int .i64 (k:Nat)] w fun e w'=>e= .returned (.int .i64 (if at_+k<=bs.length then 0 else 1))/\Rd w' lo g bs (if at_+k<=bs.length then at_+k else at_)/\Kept (fun x=>x≠g) w w':=by
 have C:=hid (left_any w lo g bs at_ hR);have HR:=hid hR;have j:at_<=bs.length/\bs.length<=800000:=kI
 have c2:w.cell? ⟨g,2,none⟩=some (.int .i64 at_):=by obtain⟨A,n,c,ls,h1,_⟩:=hR;exact h1.cell 2
 have f2:w.frozen? ⟨g,2,none⟩=false:=by obtain⟨A,n,c,ls,h1,_⟩:=hR;exact h1.frozen 2
 obtain⟨z,hz⟩:=iS bs.length;rw[<-hz]at C j ⊢;have HZ:=hid hz;obtain⟨E,y⟩:=j;clear hR hz;by_cases i:at_+k<=z
 ·rw[Ab i,Ab i];have x1:(k:Int)<=((z-at_:Nat):Int):=by omega
  go_enter func365,ntmps365;go_wp2_with fail;refine C.out.mono ?_;rintro e w1 ⟨rfl,q,rfl⟩;go_wp2_with fail;go_ret;exact⟨rfl,(HR.out.drewN q).moved (by rw[<-HZ.out];exact i),Kept.set (p:=⟨g,2,none⟩) ((Kept.refl _ w).drewN q) (fun h=>h rfl) _⟩
 ·rw[Aa i,Aa i];have x1:¬(k:Int)<=((z-at_:Nat):Int):=by omega
  go_enter func365,ntmps365;go_wp2_with fail;refine C.out.mono ?_;rintro e w1 ⟨rfl,q,rfl⟩;go_wp2_with fail;go_ret;exact⟨rfl,HR.out.drewN q,(Kept.refl _ w).drewN q⟩
theorem Ya(w:World)(lo g:Nat)(bs:List Bool)(at_ m:Nat)(hm:m<=64)(hR:Rd w lo g bs at_):
 Calls prog 363 #[.pointer (some ⟨g,0,none⟩), .int .i64 (m:Nat)] w fun e w'=>e= .returned (.tuple #[.int .u64 (yZ bs at_ m:Nat), .int .i64 ((min m (bs.length-at_):Nat):Int)])/\∃q,w'=w.drewN q:=by
 have C1:=hid (fun q=>left_any (w.drewN q) lo g bs at_ (hR.drewN q));obtain⟨A,n,c,ls,h1,h2,h3,h4,h5,h6,h7⟩:=hR;have c0:=h1.iO 0;have c1:=h1.iO 1;have c2:=h1.iO 2;have C2:=hid (fun q=>(number_any (w.drewN q) g g A n c at_ m ls h3 h7 h4 h6 hm c0 c1 (h2.row.drewN q)).mono (fun e w' h=>And.intro h.1 h.2.symm));rw[<-h5]at C2;generalize bs.length-at_=d at *;generalize yZ bs at_ m=y at *;clear h1 h2 h3 h4 h5 h6 c0 c1;go_enter func363,ntmps363;go_wp2_with fail;go_quiet (first|(go_at_call 329;exact Cq (C2.out _))|(go_at_call 297;exact Calls.quiet_of (C1.out _)));go_wp2_with fail
 all_goals
  go_ret2;refine⟨?_,_,rfl⟩
  first
  |(rw[show min m d=d by omega];rfl)
  |(rw[show min m d=m by omega];rfl)
theorem Rd.cellAt{bs:List Bool}(h:Rd w lo g bs at_):w.cell? ⟨g,2,none⟩=some (.int .i64 at_):=by obtain⟨A,n,c,ls,h1,_⟩:=h;exact h1.cell 2
theorem NU(w:World)(lo g:Nat)(bs:List Bool)(at_ m:Nat)(hm:m<=64)(hR:Rd w lo g bs at_)(q:Nat):
 Calls prog 329 #[.pointer (some ⟨g,0,none⟩), .int .i64 (at_:Nat), .int .i64 (m:Nat)] (w.drewN q) fun e w'=>e= .returned (.int .u64 (yZ bs at_ m:Nat))/\w'=w.drewN q:=by
 obtain⟨A,n,c,ls,h1,h2,h3,h4,h5,h6,h7⟩:=hR;have c0:=h1.cell 0;have c1:=h1.cell 1;have h:=(number_any (w.drewN q) g g A n c at_ m ls h3 h7 h4 h6 hm c0 c1 (h2.row.drewN q)).mono (fun e w' h=>And.intro h.1 h.2.symm);rw[<-h5]at h;exact h
def Eb(bs:List Bool)(at_:Nat):Int:=if bs.length-at_≥8∨yZ bs at_ (bs.length-at_)≠0 then 2 else 0
theorem ZS(w:World)(lo g:Nat)(bs:List Bool)(at_:Nat)(hR:Rd w lo g bs at_):
 Calls prog 332 #[.pointer (some ⟨g,0,none⟩)] w fun e w'=>e= .returned (.int .i64 (Eb bs at_))/\∃q,w'=w.drewN q:=by
 have C1:=hid (left_any w lo g bs at_ hR);have HR:=hid hR;clear hR;by_cases h8:bs.length-at_<8
 ·by_cases h0:yZ bs at_ (bs.length-at_)=0
  ·have hE:Eb bs at_=0:=(by unfold Eb;rw[Aa kR]);rw[hE];clear hE;have H0:=hid h0;clear h0;go_enter func332,ntmps332;go_wp2_with fail;refine C1.out.mono ?_;rintro e w1 ⟨rfl,q1,h⟩;have i:Rd w1 lo g bs at_:=mg;have c2:=i.cellAt;have HQ:=hid h;clear h;have C2:=hid (NU w1 lo g bs at_ (bs.length-at_) kR i);rw[H0.out]at C2;clear i;generalize bs.length-at_=d at *;have j:=iR ((8:Int)<=d);go_wp2_with fail;go_quiet (first|(go_at_call 329;exact Cq (C2.out _)));go_wp2_with fail;go_ret;refine⟨rfl,?_⟩;rw[HQ.out];exact⟨_,Dh _ _ _⟩
  ·have hE:Eb bs at_=2:=(by unfold Eb;rw[Ab (.inr h0)]);rw[hE];clear hE;go_enter func332,ntmps332;go_wp2_with fail;refine C1.out.mono ?_;rintro e w1 ⟨rfl,q1,h⟩;have i:Rd w1 lo g bs at_:=mg;have c2:=i.cellAt;have HQ:=hid h;clear h;have C2:=hid (NU w1 lo g bs at_ (bs.length-at_) kR i);clear i;generalize bs.length-at_=d at *;generalize yZ bs at_ d=y at *;have z:((y:Int) != 0)=true:=bne_iff_ne.mpr kR;clear h0;have j:=iR ((8:Int)<=d);go_wp2_with fail;go_quiet (first|(go_at_call 329;exact Cq (C2.out _)));go_wp2_with fail;go_ret;refine⟨rfl,?_⟩;rw[HQ.out];exact⟨_,Dh _ _ _⟩
 ·have hE:Eb bs at_=2:=by unfold Eb;rw[Ab (.inl kR)]
  rw[hE];clear hE;go_enter func332,ntmps332;go_wp2_with fail;refine C1.out.mono ?_;rintro e w1 ⟨rfl,q1,h⟩;have i:Rd w1 lo g bs at_:=mg
  have c2:=i.cellAt;have HQ:=hid h;clear h;clear i;generalize bs.length-at_=d at *;have j:=iQ ((8:Int)<=d)
  go_wp2_with fail;go_quiet (fail);go_wp2_with fail;go_ret;refine⟨rfl,?_⟩;rw[HQ.out];exact⟨_,Dh _ _ _⟩
theorem P8(w:World)(A:Option Addr)(n c:Nat)(ls:List Nat)(hn:ls.length=n)(J:n<=100000)(h8:∀x∈ls,x<=255)(z:A=none->n=0/\c=0)(ha:Row w w A n 1 (jZ .u8 ls)):
 Calls prog 294 #[.slice A n c] w fun e w'=>∃g,e= .returned (.pointer (some ⟨g,0,none⟩))/\Rd w' w g (Bg ls) 0/\w.heap.size<=g/\aO w w':=by
 have C:=hid (Hp w A n c ls hn J z ha);have HN:=hid hn;have H8:=hid h8;clear hn h8 z ha;go_enter func294,ntmps294;go_wp2_with fail;refine C.out.mono ?_;rintro e w1 ⟨v,rfl,y,G⟩;obtain⟨A1,c1,rfl⟩:=aZ y;have z1:=G.size;have E:=RowIn.of_own (f:=jZ .u8 ls) (s:=1) y rfl (fun i j hi hj=>by have e0:j=0:=kR;subst e0;exact numL_get (by rw[HN.out];exact hi));have L:=hid E;clear y E C;go_wp2_with fail;go_ret;refine⟨_,rfl,⟨A1,n,c1,ls,?_,?_,HN.out,H8.out,rfl,kR,J⟩,z1,lZ z1 G⟩
 ·have h:=Blk.made w1 415 #[.slice A1 n c1, .int .i64 ((8*n:Nat):Int), .int .i64 ((0:Nat):Int)];simpa using h
 ·exact L.out.keep (fun p _ h=>World.cell?_alloc_lt (w:=w1) (a:=p) (o:=_) h)
end Huff
namespace Huff
open Go.RowKit Mem Canon Own
theorem Lh(h:0<cn ls l):Ep ls ls.length l=fst ls l:=by unfold Ep;rw[List.take_length,Aa kR]
theorem Tu(h:cn ls l=0):Ep ls ls.length l=0:=by unfold Ep;rw[List.take_length,Ab h]
theorem NM(i:okB ls=true)(l:Nat)(hl:l<=15):Ep ls ls.length l+cn ls l<=65536:=by
 obtain⟨h1,h2,h3⟩:=Ii i;have h4:=IG ls l;by_cases h:0<cn ls l
 ·rw[Lh h];have h5:=KL ls l hl;have h6:=KA ls (show l+1<=16 by omega);have h7:(fst ls l+cn ls l)*1<=(fst ls l+cn ls l)*2 ^ (15-l):=Nat.mul_le_mul_left _ (GE _);omega
 ·rw[Tu kR];omega
theorem Vk(w:World)(lo B g:Nat)(ls:List Nat)(y l k s:Nat)(j:okB ls=true)(hC:Coder w lo B g ls)(h0:0<l)(hl:l<=15)(hk:k<cn ls l)(hy:y=fst ls l+k)(hs:(symsOf ls l)[k]? =some s):
 Calls prog 364 #[.pointer (some ⟨g,0,none⟩), .int .u64 (y:Nat), .int .i64 (l:Nat)] w fun e w'=>e= .returned (.tuple #[s,true])/\w=w':=by
 have hF:=NM j l hl;have c1:=hC.first l kR;have c2:=hC.many l kR;obtain⟨AS,cS,c3,i⟩:=hC.syms l kR;obtain⟨b,E,rfl,_,h⟩:=i kR;have c4:=h k 0 hk kR;have z:EB ls l=symsOf ls l:=by unfold EB;rw[Aa kR]
 rw[z]at c4;have c5:w.cell? ⟨b,E+k,none⟩=some (.int .i64 s):=by simpa[jZ,List.getD_eq_getElem?_getD,hs]using c4
 rw[Lh kR]at c1 hF;generalize fst ls l=F at *;generalize cn ls l=M at *;have G:s<=300:=by have h1:=(Tt ls k s hs).1;have h2:=(Ch.1 h1).1;have h3:=(Ii j).1;omega
 have x0:(0:Int)<=(l:Int):=kR
 have x1:(l:Int)<16:=kR
 have x2:(0:Int)<=(k:Int):=kR
 have x3:(k:Int)<(M:Int):=kR
 have x4:¬(k:Int)<0:=kR
 have s1:IntKind.i64.wrap ((y:Int)-(F:Int))=(k:Int):=lD
 have s2:IntKind.i64.wrap (y:Int)=(y:Int):=Am _ kR;clear hF i h c4 z hs j hC hy;go_enter func364,ntmps364;go_wp2_with fail;go_ret2;exact⟨rfl,rfl⟩
theorem U5(w:World)(lo B g:Nat)(ls:List Nat)(y l:Nat)(j:okB ls=true)(hC:Coder w lo B g ls)(h0:0<l)(hl:l<=15)(G:y<=65535)(hy:y<fst ls l∨fst ls l+cn ls l<=y):
 Calls prog 364 #[.pointer (some ⟨g,0,none⟩), .int .u64 (y:Nat), .int .i64 (l:Nat)] w fun e w'=>e= .returned (.tuple #[iT,false])/\w=w':=by
 have hF:=NM j l hl;have c1:=hC.first l kR;have c2:=hC.many l kR
 have i:(y:Int)-(Ep ls ls.length l:Nat)<0∨((cn ls l:Nat):Int)<=(y:Int)-(Ep ls ls.length l:Nat):=by
  by_cases h:0<cn ls l
  ·rw[Lh h];omega
  ·rw[Tu kR];omega
 generalize Ep ls ls.length l=F at *;generalize cn ls l=M at *;have x0:(0:Int)<=(l:Int):=kR
 have x1:(l:Int)<16:=kR
 have s2:IntKind.i64.wrap (y:Int)=(y:Int):=Am _ kR;obtain⟨z,hz⟩:∃z:Int,z=(y:Int)-(F:Int):=⟨_,rfl⟩;have s1:IntKind.i64.wrap ((y:Int)-(F:Int))=z:=by rw[Am _ kR,hz]
 rw[<-hz]at i;clear j hC hy hF hz;by_cases E:z<0
 ·clear i;go_enter func364,ntmps364;go_wp2_with fail;go_ret2;exact⟨rfl,rfl⟩
 ·have J:(M:Int)<=z:=by omega
  clear i;go_enter func364,ntmps364;go_wp2_with fail;go_ret2;exact⟨rfl,rfl⟩
def meets(ls:List Nat)(y l k:Nat):Prop:=0<cn ls k/\y*2 ^ (k-l)<fst ls k+cn ls k/\fst ls k<y*2 ^ (k-l)+2 ^ (k-l)
instance (ls:List Nat) (y l k:Nat):Decidable (meets ls y l k):=by unfold meets;infer_instance
def Hz(ls:List Nat)(y l:Nat):Bool:=(List.range 16).any fun k=>decide (l<k/\meets ls y l k)
theorem Th(h1:l<k)(h2:k<=15)(h3:meets ls y l k):Hz ls y l=true:=by unfold Hz;rw[List.any_eq_true];exact⟨k,ES.2 kR,by simpa using ⟨h1,h3⟩⟩
theorem NH(h:∀k,l<k->k<16->¬meets ls y l k):Hz ls y l=false:=by unfold Hz;rw[List.any_eq_false];intro k hk;have:=ES.1 hk;simp only[decide_eq_true_eq,not_and];exact fun h1=>h k h1 this
theorem YC(h:∀x∈ls,x<=15)(X there:Nat):Hz ls (X / 2 ^ (15-there)) there=(List.range ls.length).any (Ek ls X there):=by
 cases hb:(List.range ls.length).any (Ek ls X there)
 ·refine NH fun k h1 h2 h3=> ?_;obtain⟨s,hs,hc⟩:=Wn h1 h3.1 h3.2.1 h3.2.2;rw[List.any_eq_false]at hb;have:=hb s (ES.2 (Ch.1 hs).1);exact this (LQ.2 ⟨k,hs,h1,hc.symm⟩)
 ·rw[List.any_eq_true]at hb;obtain⟨s,_,hs⟩:=hb;obtain⟨k,hk,h1,hc⟩:=LQ.1 hs;exact Th h1 (h k (BP hk)) (V6 h1 hk hc.symm)
theorem M6(n:Nat)(h:n<=65536):wrap64 (n:Int)=(n:Int):=I8 _ kR
theorem On(d:Nat):((2:Int) ^ d)=((2 ^ d:Nat):Int):=mY
theorem Yn(y d:Nat)(h:y*2 ^ d<2 ^ 15):wrap64 ((y:Int)*2 ^ d)=((y*2 ^ d:Nat):Int):=by rw[On,<-Int.natCast_mul];exact M6 _ kR
theorem ZC(P d:Nat)(hP:P<2 ^ 15)(h:2 ^ d<=2 ^ 15):wrap64 ((P:Int)+wrap64 (2 ^ d))=(P:Int)+((2 ^ d:Nat):Int):=by rw[On,M6 _ kR,<-Int.natCast_add];exact M6 _ kR
theorem aK(w:World)(lo B g:Nat)(ls:List Nat)(y l:Nat)(af:okB ls=true)(hC:Coder w lo B g ls)(hl:l<15)(hy:y<2 ^ l):
 Calls prog 366 #[.pointer (some ⟨g,0,none⟩), .int .u64 (y:Nat), .int .i64 (l:Nat)] w fun e w'=>e= .returned (.bool (Hz ls y l))/\∃q,w'=w.drewN q:=by
 have HC:=hid hC;have ai:=hid af;have HY:=hid hy;have ak:y<=32768:=by have:2 ^ l<=2 ^ 15:=BQ kR kR;omega
 clear af hC hy;go_enter func366,ntmps366;go_wp2_with fail;go_loopw [7] (fun i wr=>∃k:Nat,l<k/\k<=16/\i= .int .i64 k/\Hid (∀j,l<j->j<k->¬meets ls y l j)/\Hid (∃q,wr=w.drewN q)) (fun i _=>16-(intOf i).toNat)
 case atStart=>exact⟨l+1,kR,kR,jx,(fun j h1 h2=>by omega),⟨0,rfl⟩⟩
 case round=>
  obtain⟨k,ah,aj,rfl,J,L⟩:=hrel;by_cases ae:k<16
  ·have ab:Coder wr lo B g ls:=(by obtain⟨q,hq⟩:=L.out;rw[hq];exact HC.out.keep (fun _ _ _=>rfl));have c1:=ab.first k ae;have c2:=ab.many k ae;have hF:=NM ai.out k kR;have aa:2 ^ (k-l)<=2 ^ 15:=BQ kR kR;have Y:y*2 ^ (k-l)<2 ^ 15:=by have h1:y*2 ^ (k-l)<2 ^ l*2 ^ (k-l):=Nat.mul_lt_mul_of_pos_right HY.out (GE _);rw[<-Nat.pow_add,show l+(k-l)=k by omega]at h1;have h2:2 ^ k<=2 ^ 15:=BQ kR kR;omega
   have Z:meets ls y l k↔0<cn ls k/\y*2 ^ (k-l)<Ep ls ls.length k+cn ls k/\Ep ls ls.length k<y*2 ^ (k-l)+2 ^ (k-l):=by
    unfold meets;by_cases h:0<cn ls k
    ·rw[Lh h]
    ·constructor
     ·intro h1;exact absurd h1.1 h
     ·intro h1;exact absurd h1.1 h
   have x0:(0:Int)<=(k:Int):=kR;have x1:(k:Int)<16:=kR;have x2:(0:Int)<=(k:Int)-(l:Int):=kR;go_upto_region 5 with fail;obtain⟨D,hD⟩:=iS (2 ^ (k-l));obtain⟨P,hP⟩:=iS (y*D);rw[<-hD]at aa Y Z;rw[<-hP]at Y Z;generalize Ep ls ls.length k=F at *;generalize cn ls k=M at *;have e:=Yn y (k-l) (by rw[<-hD,<-hP];exact Y);rw[<-hD,<-hP]at e;have e2:=ZC P (k-l) Y (by rw[<-hD];exact aa);rw[<-hD]at e2;rw[e];clear e;have s1:IntKind.i64.wrap ((F:Int)+(M:Int))=(F:Int)+(M:Int):=Am _ kR;have G:=hid Z;clear hP ab Z;by_cases hM:0<M
   ·by_cases h1:P<F+M
    ·have g1:=iQ ((P:Int)<(F:Int)+(M:Int));by_cases h2:F<P+D
     ·have g2:decide ((F:Int)<wrap64 ((P:Int)+wrap64 (2 ^ (k-l))))=true:=(by rw[e2];simp;omega);have HA:=hid (Th ah kR (G.out.2 ⟨hM,h1,h2⟩));clear hD e2 h1 h2;go_quiet (fail);go_wp2_with fail;go_ret;obtain⟨q,rfl⟩:=L.out;exact⟨by rw[HA.out];rfl,_,Dh _ _ _⟩
     ·have g2:decide ((F:Int)<wrap64 ((P:Int)+wrap64 (2 ^ (k-l))))=false:=(by rw[e2];simp;omega);have E:¬meets ls y l k:=fun h=>h2 (G.out.1 h).2.2
      have z:∀j,l<j->j<k+1->¬meets ls y l j:=by
       intro j U ac;by_cases N:j=k
       ·rw[N];exact E
       ·exact J.out j U kR
      have Q:=hid z;clear hD e2 h1 h2 E z J G;go_quiet (fail);go_wp2_with fail;go_roundw
      case measure=>exact jw
      case rel=>exact jq
    ·have g1:=iR ((P:Int)<(F:Int)+(M:Int));have E:¬meets ls y l k:=fun h=>h1 (G.out.1 h).2.1;have h2:=0
     have z:∀j,l<j->j<k+1->¬meets ls y l j:=by
      intro j U ac;by_cases N:j=k
      ·rw[N];exact E
      ·exact J.out j U kR
     have Q:=hid z;clear hD e2 h1 h2 E z J G;go_quiet (fail);go_wp2_with fail;go_roundw
     case measure=>exact jw
     case rel=>exact jq
   ·have ag:M=0:=kR;subst ag;have E:¬meets ls y l k:=fun h=>hM (G.out.1 h).1;have h1:=0;have h2:=0
    have z:∀j,l<j->j<k+1->¬meets ls y l j:=by
     intro j U ac;by_cases N:j=k
     ·rw[N];exact E
     ·exact J.out j U kR
    have Q:=hid z;clear hD e2 h1 h2 E z J G;go_quiet (fail);go_wp2_with fail;go_roundw
    case measure=>exact jw
    case rel=>exact jq
  ·obtain rfl:k=16:=by omega
   have HA:=hid (NH J.out);go_wp2_with fail;go_ret;exact⟨by rw[HA.out];rfl,L.out⟩
end Huff
namespace Huff
open Go.RowKit Mem Canon Own
theorem NL(X d:Nat):((X / 2 ^ d:Nat):Int)=(X:Int) / 2 ^ d:=mY
theorem Ol(bs:List Bool)(at_:Nat):head bs at_<32768:=Ev bs at_ 15
theorem Xv(X l:Nat)(hX:X<32768)(hl:l<=15):X / 2 ^ (15-l)<2 ^ l:=by
 apply Nat.div_lt_of_lt_mul
 rw[<-Nat.pow_add,show 15-l+l=15 by omega];omega
def L0(ls:List Nat)(bs:List Bool)(at_ lo g:Nat)(w:World)(e:Ending)(w':World):Prop:=
 e= .returned (.tuple #[.int .i64 (Cy ls (head bs at_) (there bs at_)).1, .int .i64 (Cy ls (head bs at_) (there bs at_)).2.1])/\
  Rd w' lo g bs (at_+(Cy ls (head bs at_) (there bs at_)).2.2)/\Kept (fun x=>x≠g) w w'
theorem Tx(w:World)(G cB gc lo g:Nat)(ls:List Nat)(bs:List Bool)(at_:Nat)(ae:okB ls=true)(hC:Coder w G cB gc ls)(hR:Rd w lo g bs at_):
 Calls prog 353 #[.pointer (some ⟨gc,0,none⟩), .pointer (some ⟨g,0,none⟩)] w (L0 ls bs at_ lo g w):=by
 have C1:=hid (Ya w lo g bs at_ 15 kR hR);have hX:=Ol bs at_;have al:there bs at_<=15:=by unfold there;omega
 have am:there bs at_<=bs.length-at_:=by unfold there;omega
 have an:at_<=bs.length:=by obtain⟨A,n,c,l,h1,h2,h3,h4,h5,h6,h7⟩:=hR;rw[h5,Dy,h3];exact h6
 change Hid (Calls _ _ _ _ fun e w'=>e= .returned (.tuple #[.int .u64 (head bs at_:Nat), .int .i64 (there bs at_:Nat)])/\∃q,w'=w.drewN q)at C1
 unfold L0;generalize head bs at_=X at *;generalize there bs at_=th at *;have HC:=hid hC;have HR:=hid hR;have L:=hid ae;clear hC hR ae;go_enter func353,ntmps353;go_wp2_with fail;refine C1.out.mono ?_;rintro e w1 ⟨rfl,q1,Y⟩;have Z:Hid (Coder w1 G cB gc ls):=by show Coder w1 G cB gc ls;rw[Y];exact HC.out.keep (fun _ _ _=>rfl)
 have M:Hid (Rd w1 lo g bs at_):=by show Rd w1 lo g bs at_;rw[Y];exact HR.out
 have Q:Hid (Kept (fun x=>x≠g) w w1):=by show Kept _ w w1;rw[Y];exact(Kept.refl _ w).drewN q1
 clear Y C1;go_wp2_with fail;go_loopw [8] (fun i wr=>∃l:Nat,1<=l/\l<=th+1/\i= .int .i64 l/\Hid (∀s,hit ls X (l-1) s=false)/\w1=wr) (fun i _=>17-(intOf i).toNat)
 case atStart=>exact⟨1,kR,kR,rfl,WE ls X,rfl⟩
 case round=>
  obtain⟨l,ar,aq,rfl,E,rfl⟩:=hrel;by_cases aj:l<=th
  ·by_cases J:∃k,k<cn ls l/\X / 2 ^ (15-l)=fst ls l+k
   ·obtain⟨k,hk,hy⟩:=J;obtain⟨s,ab,ac,aa⟩:=Wv kR hk hy;have C2:=Vk w1 G cB gc ls _ l k s L.out Z.out kR kR hk hy ab;rw[NL]at C2;have C2:=hid C2;have C3:=Ys w1 lo g bs at_ l kR M.out;rw[Ab kR,Ab kR]at C3;have C3:=hid C3;have HG:=hid (TA L.out ac (We aj aa));clear hk hy ab ac aa E;go_wp2_with fail;refine C2.out.mono ?_;rintro e w2 ⟨rfl,rfl⟩;go_wp2_with fail;refine C3.out.mono ?_;rintro e w3 ⟨rfl,ai,af⟩;go_wp2_with fail;go_ret2;rw[HG.out];exact⟨rfl,ai,Q.out.trans af⟩
   ·have hy:X / 2 ^ (15-l)<fst ls l∨fst ls l+cn ls l<=X / 2 ^ (15-l):=by
     by_cases h:X / 2 ^ (15-l)<fst ls l
     ·exact .inl h
     ·refine .inr (Nat.le_of_not_lt fun h2=>J ⟨X / 2 ^ (15-l)-fst ls l,kR,kR⟩)
    have ah:=Hh X (2 ^ (15-l));have C2:=U5 w1 G cB gc ls (X / 2 ^ (15-l)) l L.out Z.out kR kR kR hy;rw[NL]at C2;have C2:=hid C2;have y:∀s,hit ls X l s=false:=(by obtain⟨j,rfl⟩:∃j,l=j+1:=⟨l-1,kR⟩;exact WV E.out hy);have ak:=hid y;clear J hy ah E y;go_wp2_with fail;refine C2.out.mono ?_;rintro e w2 ⟨rfl,rfl⟩;go_wp2_with fail;go_roundw
    case measure=>exact jw
    case rel=>go_light;exact⟨l+1,kR,kR,jx,ak.out,trivial⟩
  ·have N:l-1=th:=kR;have y:=E.out;rw[N]at y;have hG:=Q5 y;obtain⟨_,U,_⟩:=Ii L.out;rw[<-YC U]at hG;have HG:=hid hG;by_cases ag:th<15
   ·have C2:=aK w1 G cB gc ls (X / 2 ^ (15-th)) th L.out Z.out ag (Xv X th hX al);rw[NL]at C2;have C2:=hid C2;have x1:(th:Int)<15:=kR;cases z:Hz ls (X / 2 ^ (15-th)) th
    ·rw[z]at C2 HG;clear N E y hG U z;go_wp2_with fail;refine C2.out.mono ?_;rintro e w2 ⟨rfl,q2,rfl⟩;go_wp2_with fail;go_ret2;rw[HG.out];exact⟨rfl,M.out.drewN q2,Q.out.drewN q2⟩
    ·rw[z]at C2 HG;clear N E y hG U z;go_wp2_with fail;refine C2.out.mono ?_;rintro e w2 ⟨rfl,q2,rfl⟩;go_wp2_with fail;go_ret2;rw[HG.out];exact⟨rfl,M.out.drewN q2,Q.out.drewN q2⟩
   ·have z:Hz ls (X / 2 ^ (15-th)) th=false:=NH fun k h1 h2=>by omega
    rw[z]at HG;clear N E y hG U z;go_wp2_with fail;go_ret2;rw[HG.out];exact⟨rfl,M.out,Q.out⟩
end Huff
namespace Huff
open Go.RowKit Mem Canon Own
def RRd(w:World)(g hi:Nat)(bs:List Bool)(at_:Nat):Prop:=
 ∃ (A:Option Addr) (c:Nat),Blk w g 392 #[.slice A bs.length c,at_]/\RowIn w (g+1) hi A bs.length 1 (jZ .u8 (b01 bs))/\at_<=bs.length/\bs.length<=800000
theorem RRd.keep{bs:List Bool}(h:RRd w g hi bs at_)(hk:∀b,g<=b->(b<hi∨b=g)->w'.heap[b]? =w.heap[b]?):RRd w' g hi bs at_:=by obtain⟨A,c,h1,h2,h3⟩:=h;exact⟨A,c,(hk g (Ai _) (.inr rfl)).trans h1,h2.keep (fun p ha hb=>World.cell?_of_block (hk p.block kR (.inl hb))),h3⟩
theorem RRd.drewN{bs:List Bool}(h:RRd w g hi bs at_)(q:Nat):RRd (w.drewN q) g hi bs at_:=h
theorem RRd.moved{bs:List Bool}(h:RRd w g hi bs at_)(hk:at_+k<=bs.length):RRd (w.setCell ⟨g,1,none⟩ (.int .i64 ((at_:Int)+(k:Int)))) g hi bs (at_+k):=by obtain⟨A,c,h1,h2,h3,h4⟩:=h;refine⟨A,c,?_,h2.keep (fun p ha _=>World.cell?_of_block (AJ w _ _ _ (show p.block≠g by omega))),hk,h4⟩;have h:=h1.set 1 (.int .i64 ((at_:Int)+(k:Int)));simpa using h
theorem RRd.cells{bs:List Bool}(h:RRd w g hi bs at_):∃A c,w.cell? ⟨g,0,none⟩=some (.slice A bs.length c)/\w.cell? ⟨g,1,none⟩=some (.int .i64 at_)/\w.frozen? ⟨g,1,none⟩=false/\RowIn w (g+1) hi A bs.length 1 (jZ .u8 (b01 bs))/\at_<=bs.length/\bs.length<=800000:=by obtain⟨A,c,h1,h2,h3,h4⟩:=h;exact⟨A,c,h1.cell 0,h1.cell 1,h1.frozen 1,h2,h3,h4⟩
theorem rleft_any(w:World)(g hi:Nat)(bs:List Bool)(at_:Nat)(hR:RRd w g hi bs at_):
 Calls prog 307 #[.pointer (some ⟨g,0,none⟩)] w fun e w'=>e= .returned (.int .i64 ((bs.length-at_:Nat):Int))/\∃q,w'=w.drewN q:=by
 obtain⟨A,c,c0,c1,_,_,h3,h4⟩:=hR.cells;generalize bs.length=z at *;have s1:IntKind.i64.wrap ((z:Int)-(at_:Int))=((z-at_:Nat):Int):=lD
 clear hR;go_enter func307,ntmps307;go_wp2_with fail;go_quiet (fail);go_wp2_with fail;go_ret;exact⟨rfl,_,rfl⟩
theorem Oe(w:World)(g hi:Nat)(bs:List Bool)(at_ m:Nat)(hm:m<=64)(hR:RRd w g hi bs at_):
 Calls prog 306 #[.pointer (some ⟨g,0,none⟩), .int .i64 (m:Nat)] w fun e w'=>e= .returned (.tuple #[.int .u64 (yZ bs at_ m:Nat), .int .i64 ((min m (bs.length-at_):Nat):Int)])/\∃q,w'=w.drewN q:=by
 have HR:=hid hR;clear hR;go_enter func306,ntmps306;go_wp2_with fail;go_loopw [6,7,8] (fun u v i wr=>∃k x th:Nat,k<=m/\i= .int .i64 k/\u= .int .u64 x/\v= .int .i64 th/\Hid (x=yZ bs at_ k)/\Hid (th=min k (bs.length-at_))/\Hid (∃q,wr=w.drewN q)) (fun _ _ i _=>m-(intOf i).toNat)
 case atStart=>exact⟨0,0,0,kR,rfl,rfl,rfl,rfl,by show 0=_;omega,⟨0,rfl⟩⟩
 case round=>
  obtain⟨k,x,th,hk,rfl,rfl,rfl,hx,E,J⟩:=hrel;by_cases af:k<m
  ·have M:RRd wr g hi bs at_:=(by obtain⟨q,hq⟩:=J.out;rw[hq];exact HR.out);have C:=hid (rleft_any wr g hi bs at_ M);have Y:=hid M;have N:=Ev bs at_ k;rw[<-hx.out]at N;have ab:x<9223372036854775808:=Em N (by have:2 ^ k<=2 ^ 63:=BQ kR kR;omega);have h:yZ bs at_ (k+1)=2*x+bit bs (at_+k):=(by rw[yZ,<-hx.out]);clear M N hx;by_cases aa:at_+k<bs.length
   ·have x1:(k:Int)<((bs.length-at_:Nat):Int):=kR;have Z:=E6 bs (at_+k);have j:th+1=min (k+1) (bs.length-at_):=(by have:=E.out;omega);have ae:th<=64:=(by have:=E.out;omega);have HT:=hid j;have HS:=hid h;clear E j h;go_wp2_with fail;refine C.out.mono ?_;rintro e w2 ⟨rfl,q2,G⟩;have Q:RRd w2 g hi bs at_:=(by rw[G];exact Y.out.drewN q2);have HD:Hid (∃q,w2=w.drewN q):=kP;obtain⟨A,c,c0,c1,_,L,h3,h4⟩:=Q.cells;obtain⟨b,ac,y,rfl,_,hy,d0⟩:=CD L.row (Kc bs) aa;have U:bit bs (at_+k)=y:=k7;rw[U]at Z HS;have x2:(0:Int)<=(at_:Int)+(k:Int):=kR;have x3:(at_:Int)+(k:Int)<((bs.length:Nat):Int):=kR;generalize hz:bs.length=z at *;have HZ:=hid hz;clear hz G Q L hy U C;go_wp2_with fail;go_quiet (fail);go_wp2_with fail;go_roundw
    case measure=>exact jw
    case rel=>
     go_light;refine⟨k+1,2*x+y,th+1,kR,jx,jx,jx,HS.out.symm,?_,?_⟩
     ·rw[HZ.out];exact HT.out
     ·obtain⟨q,rfl⟩:=HD.out;exact⟨_,Dh _ _ _⟩
   ·have x1:¬(k:Int)<((bs.length-at_:Nat):Int):=kR;rw[Q0 kR,CT]at h;have j:th=min (k+1) (bs.length-at_):=(by have:=E.out;omega);have HT:=hid j;have HS:=hid h;clear E j h;go_wp2_with fail;refine C.out.mono ?_;rintro e w2 ⟨rfl,q2,G⟩;have HD:Hid (∃q,w2=w.drewN q):=kP;clear G C;go_wp2_with fail;go_roundw
    case measure=>exact jw
    case rel=>go_light;exact⟨k+1,2*x,th,kR,jx,jx,rfl,HS.out.symm,HT.out,HD.out⟩
  ·obtain rfl:k=m:=by omega
   go_wp2_with fail;go_ret2;exact⟨by rw[<-hx.out,<-E.out];rfl,J.out⟩
end Huff
namespace Huff
open Go.RowKit Mem Canon Own
def Gu(bs:List Bool)(at_ m:Nat):Nat:=if at_+m<=bs.length then yZ bs at_ m else 0
def Gr(bs:List Bool)(at_ m:Nat):Int:=if at_+m<=bs.length then 0 else 1
def Gq(bs:List Bool)(at_ m:Nat):Nat:=if at_+m<=bs.length then at_+m else at_
theorem JB(w:World)(lo g:Nat)(bs:List Bool)(at_ m:Nat)(hm:m<=64)(hR:Rd w lo g bs at_):
 Calls prog 298 #[.pointer (some ⟨g,0,none⟩), .int .i64 (m:Nat)] w fun e w'=>e= .returned (.tuple #[.int .u64 (Gu bs at_ m:Nat), .int .i64 (Gr bs at_ m)])/\Rd w' lo g bs (Gq bs at_ m)/\Kept (fun x=>x≠g) w w':=by
 have C:=hid (left_any w lo g bs at_ hR);have HR:=hid hR;have J:at_<=bs.length/\bs.length<=800000:=kI
 obtain⟨L,M⟩:=J;have c2:=hR.cellAt;have f2:w.frozen? ⟨g,2,none⟩=false:=by obtain⟨A,n,c,ls,h1,_⟩:=hR;exact h1.frozen 2
 unfold Gu Gr Gq;by_cases i:at_+m<=bs.length
 ·rw[Ab i,Ab i,Ab i];have C2:=hid (NU w lo g bs at_ m hm hR);have x1:(m:Int)<=((bs.length-at_:Nat):Int):=by omega
  have G:=hid i;generalize yZ bs at_ m=y at *;clear hR i;go_enter func298,ntmps298;go_wp2_with fail;refine C.out.mono ?_;rintro e w1 ⟨rfl,q,hq⟩;have j:Rd w1 lo g bs at_:=by rw[hq];exact HR.out.drewN q
  have d2:=j.cellAt;have g2:w1.frozen? ⟨g,2,none⟩=false:=by rw[hq];exact f2
  have C4:Hid (∀p,Calls prog 329 #[.pointer (some ⟨g,0,none⟩), .int .i64 (at_:Nat), .int .i64 (m:Nat)] (w1.drewN p) fun e w'=>e= .returned (.int .u64 (y:Nat))/\w'=w1.drewN p):=by intro p;have h:=C2.out (q+p);rw[hq,Dh];exact h
  have z:=hid j;have E:Hid (Kept (fun x=>x≠g) w w1):=by show Kept _ w w1;rw[hq];exact(Kept.refl _ w).drewN q
  clear hq j C C2 c2 f2;go_wp2_with fail;go_quiet (first|(go_at_call 329;exact Cq (C4.out _)));go_wp2_with fail;go_ret2;exact⟨rfl,(z.out.drewN _).moved G.out,Kept.set (p:=⟨g,2,none⟩) (E.out.drewN _) (fun h=>h rfl) _⟩
 ·rw[Aa i,Aa i,Aa i];have x1:¬(m:Int)<=((bs.length-at_:Nat):Int):=by omega
  clear hR;go_enter func298,ntmps298;go_wp2_with fail;refine C.out.mono ?_;rintro e w1 ⟨rfl,q,rfl⟩;go_wp2_with fail;go_ret2;exact⟨rfl,HR.out.drewN q,(Kept.refl _ w).drewN q⟩
theorem Ku(w:World)(g hi:Nat)(bs:List Bool)(at_ m:Nat)(hm:m<=64)(hR:RRd w g hi bs at_):
 Calls prog 267 #[.pointer (some ⟨g,0,none⟩), .int .i64 (m:Nat)] w fun e w'=>e= .returned (.tuple #[.int .u64 (Gu bs at_ m:Nat), .int .i64 (Gr bs at_ m)])/\RRd w' g hi bs (Gq bs at_ m)/\Kept (fun x=>x≠g) w w':=by
 have C:=hid (rleft_any w g hi bs at_ hR);have C2:=hid (fun q=>Oe (w.drewN q) g hi bs at_ m hm (hR.drewN q));have HR:=hid hR;obtain⟨A,c,_,c1,f1,_,z,E⟩:=hR.cells;unfold Gu Gr Gq;by_cases i:at_+m<=bs.length
 ·rw[Ab i,Ab i,Ab i];have x1:(m:Int)<=((bs.length-at_:Nat):Int):=by omega
  have j:=hid i;generalize yZ bs at_ m=y at *;clear hR i;go_enter func267,ntmps267;go_wp2_with fail;refine C.out.mono ?_;rintro e w1 ⟨rfl,q,rfl⟩;go_wp2_with fail;refine(C2.out q).mono ?_;rintro e w2 ⟨rfl,q2,rfl⟩;go_wp2_with fail;go_ret2;exact⟨rfl,(HR.out.drewN (q+q2)).moved j.out,Kept.set (p:=⟨g,1,none⟩) ((Kept.refl (fun x=>x≠g) w).drewN (q+q2)) (fun h=>h rfl) _⟩
 ·rw[Aa i,Aa i,Aa i];have x1:¬(m:Int)<=((bs.length-at_:Nat):Int):=by omega
  clear hR;go_enter func267,ntmps267;go_wp2_with fail;refine C.out.mono ?_;rintro e w1 ⟨rfl,q,rfl⟩;go_wp2_with fail;go_ret2;exact⟨rfl,HR.out.drewN q,(Kept.refl _ w).drewN q⟩
end Huff
namespace Huff
open Go.RowKit Mem Canon Own
def unC(bs:List Bool):Nat->Nat->Nat
 |_,0=>0
 |i,f+1=>if bit bs i=1 then 0 else unC bs (i+1) f+1
def unD(bs:List Bool)(at_:Nat):Nat:=unC bs at_ (bs.length-at_)
def unV(bs:List Bool)(at_:Nat):Nat:=if at_+unD bs at_<bs.length then unD bs at_ else 0
def unE(bs:List Bool)(at_:Nat):Int:=if at_+unD bs at_<bs.length then 0 else 1
def unA(bs:List Bool)(at_:Nat):Nat:=if at_+unD bs at_<bs.length then at_+unD bs at_+1 else at_
theorem O6{bs:List Bool}(h:unD bs at_=i-at_+unC bs i (bs.length-i))(h1:at_<=i)(h2:i<bs.length)(hb:bit bs i=1):unV bs at_=i-at_/\unE bs at_=0/\unA bs at_=i+1:=by
 have e:bs.length-i=(bs.length-(i+1))+1:=kR
 rw[e,unC,Ab hb,CT]at h;unfold unV unE unA;rw[h,Ab kR,Ab kR,Ab kR];exact⟨rfl,rfl,kR⟩
theorem Tm{bs:List Bool}(h:unD bs at_=i-at_+unC bs i (bs.length-i))(h1:at_<=i)(h2:i<bs.length)(hb:bit bs i≠1):unD bs at_=i+1-at_+unC bs (i+1) (bs.length-(i+1)):=by
 have e:bs.length-i=(bs.length-(i+1))+1:=kR
 rw[e,unC,Aa hb]at h;omega
theorem OT{bs:List Bool}(h:unD bs at_=i-at_+unC bs i (bs.length-i))(h1:at_<=i)(h2:i=bs.length):unV bs at_=0/\unE bs at_=1/\unA bs at_=at_:=by rw[h2,Fj,unC]at h;unfold unV unE unA;rw[Aa kR,Aa kR,Aa kR];exact⟨rfl,rfl,rfl⟩
theorem XT(w:World)(lo g:Nat)(bs:List Bool)(at_:Nat)(hR:Rd w lo g bs at_):
 Calls prog 296 #[.pointer (some ⟨g,0,none⟩)] w fun e w'=>e= .returned (.tuple #[.int .i64 (unV bs at_:Nat), .int .i64 (unE bs at_)])/\Rd w' lo g bs (unA bs at_)/\Kept (fun x=>x≠g) w w':=by
 have HR:=hid hR;obtain⟨A,n,c,ls,h1,h2,h3,h4,h5,h6,h7⟩:=hR;have hl:bs.length=8*n:=by rw[h5,Dy,h3]
 have hz:bs.length<=800000:=kR
 have J:at_<=bs.length:=kR
 have c0:=h1.iO 0;have c1:=h1.iO 1;have c2:=h1.iO 2;have f2:=h1.frozen 2;rw[<-hl]at c1;have DB:=hid (fun i hi=>Oy w g g A n c i ls h3 h7 h4 (by omega:i<8*n) c0 h2.row);rw[<-h5,<-hl]at DB;have H1:Hid (unD bs at_=at_-at_+unC bs at_ (bs.length-at_)):=by show _=_;unfold unD;omega
 clear h1 h2 h3 h4 h5 h6 h7 hl c0;obtain⟨z,E⟩:=iS bs.length;rw[<-E]at c1 hz J DB;have HZ:=hid E;clear E;go_enter func296,ntmps296;go_wp2_with fail;go_loopw [4] (fun iv wr=>∃i:Nat,at_<=i/\i<=z/\iv= .int .i64 i/\Hid (wr=w)/\Hid (unD bs at_=i-at_+unC bs i (bs.length-i))) (fun iv _=>z-(intOf iv).toNat)
 case atStart=>exact⟨at_,Ai _,J,rfl,rfl,H1.out⟩
 case round=>
  obtain⟨i,j,N,rfl,hw,HU⟩:=hrel;have hw:=hw.out;subst hw;clear H1;by_cases y:i<z
  ·have g1:=iQ ((i:Int)<z);have U:=iQ (i<z);have D:=hid (DB.out i y);by_cases hb:bit bs i=1
   ·have UU:=hid (O6 HU.out j (by rw[<-HZ.out];exact y) hb);have Q:IntKind.i64.wrap ((i:Int)-(at_:Int))=((i-at_:Nat):Int):=lD;have M:Hid (Rd (wr.setCell ⟨g,2,none⟩ (.int .i64 ((i:Int)+1))) lo g bs (i+1)):=(by have h:=HR.out.moved (k:=i+1-at_) (by rw[<-HZ.out];omega);rw[show((at_:Int)+((i+1-at_:Nat):Int))=(i:Int)+1 by omega,show at_+(i+1-at_)=i+1 by omega]at h;exact h);rw[hb]at D;clear hb HU DB;go_wp2_with fail;refine D.out.mono ?_;rintro e w1 ⟨rfl,rfl⟩;go_wp2_with fail;go_ret2;rw[UU.out.1,UU.out.2.1,UU.out.2.2];exact⟨rfl,M.out,(Kept.refl _ _).set (fun h=>h rfl) _⟩
   ·have G:bit bs i=0:=(by have:=E6 bs i;omega);have L:=hid (Tm HU.out j (by rw[<-HZ.out];exact y) hb);rw[G]at D;clear hb G HU;go_wp2_with fail;refine D.out.mono ?_;rintro e w1 ⟨rfl,rfl⟩;go_wp2_with fail;go_roundw
    case measure=>exact jw
    case rel=>go_light;exact⟨i+1,kR,kR,i5,trivial,L.out⟩
  ·obtain rfl:i=z:=by omega
   have g1:=iR ((i:Int)<i);have UU:=hid (OT HU.out j HZ.out);clear HU DB;go_wp2_with fail;go_ret2;rw[UU.out.1,UU.out.2.1,UU.out.2.2];exact⟨rfl,HR.out,Kept.refl _ _⟩
theorem Uj(w:World)(g hi:Nat)(bs:List Bool)(at_:Nat)(hR:RRd w g hi bs at_):
 Calls prog 311 #[.pointer (some ⟨g,0,none⟩)] w fun e w'=>e= .returned (.tuple #[.int .i64 (unV bs at_:Nat), .int .i64 (unE bs at_)])/\RRd w' g hi bs (unA bs at_)/\Kept (fun x=>x≠g) w w':=by
 have HR:=hid hR;obtain⟨A,c,c0,c1,f1,G,Z,hz⟩:=hR.cells;have Y:=hid G;have H1:Hid (unD bs at_=at_-at_+unC bs at_ (bs.length-at_)):=by show _=_;unfold unD;omega
 clear hR G;obtain⟨z,M⟩:=iS bs.length;rw[<-M]at c0 hz Z;have HZ:=hid M;clear M;go_enter func311,ntmps311;go_wp2_with fail;go_loopw [4] (fun iv wr=>∃i:Nat,at_+i<=z/\iv= .int .i64 i/\Hid (∃q,wr=w.drewN q)/\Hid (unD bs at_=at_+i-at_+unC bs (at_+i) (bs.length-(at_+i)))) (fun iv _=>z-(intOf iv).toNat)
 case atStart=>exact⟨0,Z,rfl,⟨0,rfl⟩,H1.out⟩
 case round=>
  obtain⟨i,ae,rfl,hw,HU⟩:=hrel;have d0:wr.cell? ⟨g,0,none⟩=some (.slice A z c):=by obtain⟨q,hq⟩:=hw.out;rw[hq];exact c0
  have d1:wr.cell? ⟨g,1,none⟩=some (.int .i64 at_):=by obtain⟨q,hq⟩:=hw.out;rw[hq];exact c1
  have k1:wr.frozen? ⟨g,1,none⟩=false:=by obtain⟨q,hq⟩:=hw.out;rw[hq];exact f1
  have N:Hid (RRd wr g hi bs at_):=by obtain⟨q,hq⟩:=hw.out;rw[hq];exact HR.out.drewN q
  have Q:Hid (Kept (fun x=>x≠g) w wr):=by obtain⟨q,hq⟩:=hw.out;rw[hq];exact(Kept.refl _ _).drewN q
  have L:Hid (RowIn wr (g+1) hi A bs.length 1 (jZ .u8 (b01 bs))):=by obtain⟨q,hq⟩:=hw.out;rw[hq];exact Y.out
  have HD:∀q2,Hid (∃q,wr.drewN q2=w.drewN q):=fun q2=>by obtain⟨q,hq⟩:=hw.out;exact⟨q+q2,by rw[hq,Dh]⟩
  have s1:IntKind.i64.wrap ((at_:Int)+(i:Int))=((at_+i:Nat):Int):=lD
  clear H1 hw c0 c1 f1;by_cases E:at_+i<z
  ·have g1:=iQ (((at_+i:Nat):Int)<(z:Int));have J:=iQ (at_+i<z);obtain⟨b,af,y,rfl,_,hy,e0⟩:=CD L.out.row (Kc bs) (by rw[<-HZ.out];exact E);have j:bit bs (at_+i)=y:=k7;obtain⟨p,hp⟩:=iS (at_+i);rw[<-hp]at s1 g1 J e0 j HU E;have x0:(0:Int)<=(p:Int):=kR;have x1:(p:Int)<(z:Int):=kR;clear hy L;by_cases hb:y=1
   ·subst hb;have UU:=O6 HU.out kR (by rw[<-HZ.out];exact E) j;rw[show p-at_=i by omega]at UU;have UU:=hid UU;have ab:Hid (RRd (wr.setCell ⟨g,1,none⟩ (.int .i64 ((p:Int)+1))) g hi bs (p+1)):=(by have h:=N.out.moved (k:=p+1-at_) (by rw[<-HZ.out];omega);rw[show((at_:Int)+((p+1-at_:Nat):Int))=(p:Int)+1 by omega,show at_+(p+1-at_)=p+1 by omega]at h;exact h);clear j HU hp;go_wp2_with fail;go_quiet (fail);go_wp2_with fail;go_quiet (fail);go_wp2_with fail;go_ret2;rw[UU.out.1,UU.out.2.1,UU.out.2.2];exact⟨rfl,ab.out.drewN _,Q.out.drewN _ |>.set (fun h=>h rfl) _⟩
   ·have ac:y=0:=(by have:=E6 bs p;omega);have U:=hid (Tm HU.out kR (by rw[<-HZ.out];exact E) (by rw[j];exact hb));subst ac;rw[show p+1=at_+(i+1) by omega]at U;have aa:at_+(i+1)<=z:=kR;clear j HU hp hb;go_wp2_with fail;go_quiet (fail);go_wp2_with fail;go_quiet (fail);go_wp2_with fail;go_roundw
    case measure=>exact jw
    case rel=>go_light;exact⟨i+1,aa,i5,(HD _).out,U.out⟩
  ·have g1:=iR (((at_+i:Nat):Int)<(z:Int));have J:=iR (at_+i<z);have UU:=hid (OT HU.out kR (by rw[<-HZ.out];omega));obtain⟨p,hp⟩:=iS (at_+i);rw[<-hp]at s1 g1 J;clear HU hp L;go_wp2_with fail;go_quiet (fail);go_wp2_with fail;go_ret2;rw[UU.out.1,UU.out.2.1,UU.out.2.2];exact⟨rfl,N.out.drewN _,Q.out.drewN _⟩
end Huff
end Go.Proofs.YtfgdoknipbpfhaaGreatDoor
