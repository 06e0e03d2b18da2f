/- The walk of the refe -/
import Derived.Test.YtbgoibedicbkjaaGreatDoorZBodyLogs3
import Derived.Deep.RegionLaw
import Derived.Deep.AppendLies
import Derived.BigRegion
import Derived.Laws.BitsLemmas
import Derived.Laws.Bits64b
namespace Go.Proofs.YtbgoibedicbkjaaGreatDoor
open Go.Lib (hid)
set_option maxHeartbeats 1000000
set_option maxRecDepth 100000
namespace Huff
open Go.RowKit Mem Canon Own
def b01(bs:List Bool):List Nat:=bs.map fun b=>if b then 1 else 0
theorem Js(bs:List Bool):(b01 bs).length=bs.length:=by simp[b01]
theorem Kb(bs:List Bool)(i:Nat):(b01 bs).getD i 0=bit bs i:=by unfold b01 bit;rw[Ar,Ar,Bw];cases bs[i]? <;>simp
theorem UF(k:IntKind)(l:List Nat)(x:Nat):cZ k (l++ [x])=cZ k l++ [.int k (x:Nat)]:=by simp[cZ]
end Huff
namespace Huff
open Go.RowKit Mem Canon Own
def Dt(ls:List Nat)(l:Nat):List Nat:=if l=0 then []else symsOf ls l
theorem Yc(ls:List Nat)(l:Nat):(Dt ls l).length=cn ls l:=by
 unfold Dt cn;split
 ·rfl
 ·exact MA l ls
theorem JI{ls:List Nat}{k x:Nat}(hx:ls[k]? =some x)(h0:x≠0)(l:Nat):cn (ls.take (k+1)) l=cn (ls.take k) l+if x=l then 1 else 0:=by
 rw[Fa hx];unfold cn;split
 ·rename_i h;subst h;rw[Aa h0]
 ·rw[Fc]
theorem L4{ls:List Nat}{k:Nat}(hx:ls[k]? =some 0)(l:Nat):cn (ls.take (k+1)) l=cn (ls.take k) l:=by
 rw[Fa hx];unfold cn;split
 ·rfl
 ·rw[Fc,Aa (by omega)];rfl
theorem Uf{ls:List Nat}{k x:Nat}(hx:ls[k]? =some x)(h0:x≠0)(l:Nat):Dt (ls.take (k+1)) l=Dt (ls.take k) l++if x=l then [k]else []:=by
 have hk:(ls.take k).length=k:=by have:=(BO.1 hx).1;rw[AO];omega
 rw[Fa hx];unfold Dt;split
 ·rename_i h;subst h;rw[Aa h0];rfl
 ·rw[LB,hk]
theorem TY{ls:List Nat}{k:Nat}(hx:ls[k]? =some 0)(l:Nat):Dt (ls.take (k+1)) l=Dt (ls.take k) l:=by
 rw[Fa hx];unfold Dt;split
 ·rfl
 ·rw[LB,Aa (by omega),Fi]
def Dy(ls:List Nat)(k l:Nat):Nat:=if cn (ls.take k) l=0 then 0 else fst ls l
def upd(sv:Nat->Value)(l:Nat)(v:Value):Nat->Value:=fun m=>if m=l then v else sv m
structure Cells (ls:List Nat) (k:Nat) (vl vc:Value) (sv:Nat->Value) (cs:Array Value):Prop where
 size:cs.size=50
 lens:cs[0]? =some vl
 codes:cs[1]? =some vc
 first:∀l,l<16->cs[2+l]? =some (.int .i64 (Dy ls k l:Nat))
 many:∀l,l<16->cs[18+l]? =some (.int .i64 (cn (ls.take k) l:Nat))
 syms:∀l,l<16->cs[34+l]? =some (sv l)
theorem Cells.start(ls:List Nat)(vl vc:Value):Cells ls 0 vl vc (fun _=> .slice none 0 0)
 #[vl,vc, .int .i64 0, .int .i64 0, .int .i64 0, .int .i64 0, .int .i64 0, .int .i64 0, .int .i64 0, .int .i64 0, .int .i64 0, .int .i64 0, .int .i64 0, .int .i64 0, .int .i64 0, .int .i64 0, .int .i64 0, .int .i64 0,
  .int .i64 0, .int .i64 0, .int .i64 0, .int .i64 0, .int .i64 0, .int .i64 0, .int .i64 0, .int .i64 0, .int .i64 0, .int .i64 0, .int .i64 0, .int .i64 0, .int .i64 0, .int .i64 0, .int .i64 0, .int .i64 0,
  .slice none 0 0, .slice none 0 0, .slice none 0 0, .slice none 0 0, .slice none 0 0, .slice none 0 0, .slice none 0 0, .slice none 0 0, .slice none 0 0, .slice none 0 0, .slice none 0 0, .slice none 0 0, .slice none 0 0, .slice none 0 0, .slice none 0 0, .slice none 0 0]:=by
 have hc:∀l,cn (ls.take 0) l=0:=by intro l;simp[cn,Is]
 have hf:∀l,Dy ls 0 l=0:=by intro l;unfold Dy;rw[Ab (hc l)]
 refine⟨rfl,rfl,rfl,fun l hl=> ?_,fun l hl=> ?_,fun l hl=> ?_⟩
 ·rw[hf];have:l=0∨l=1∨l=2∨l=3∨l=4∨l=5∨l=6∨l=7∨l=8∨l=9∨l=10∨l=11∨l=12∨l=13∨l=14∨l=15:=by omega
  rcases this with rfl|rfl|rfl|rfl|rfl|rfl|rfl|rfl|rfl|rfl|rfl|rfl|rfl|rfl|rfl|rfl<;>rfl
 ·rw[hc];have:l=0∨l=1∨l=2∨l=3∨l=4∨l=5∨l=6∨l=7∨l=8∨l=9∨l=10∨l=11∨l=12∨l=13∨l=14∨l=15:=by omega
  rcases this with rfl|rfl|rfl|rfl|rfl|rfl|rfl|rfl|rfl|rfl|rfl|rfl|rfl|rfl|rfl|rfl<;>rfl
 ·have:l=0∨l=1∨l=2∨l=3∨l=4∨l=5∨l=6∨l=7∨l=8∨l=9∨l=10∨l=11∨l=12∨l=13∨l=14∨l=15:=by omega
  rcases this with rfl|rfl|rfl|rfl|rfl|rfl|rfl|rfl|rfl|rfl|rfl|rfl|rfl|rfl|rfl|rfl<;>rfl
theorem Cells.skip{ls:List Nat}{k:Nat}{vl vc:Value}{sv:Nat->Value}{cs:Array Value}(h:Cells ls k vl vc sv cs)(hx:ls[k]? =some 0):Cells ls (k+1) vl vc sv cs:=by
 refine⟨h.size,h.lens,h.codes,fun l hl=> ?_,fun l hl=> ?_,h.syms⟩
 ·rw[h.first l hl];unfold Dy;rw[L4 hx]
 ·rw[h.many l hl,L4 hx]
theorem Cells.next{ls:List Nat}{k x c:Nat}{vl vc v:Value}{sv:Nat->Value}{cs:Array Value}(h:Cells ls k vl vc sv cs)(hx:ls[k]? =some x)(h0:x≠0)(i:x<=15)(hc:cn (ls.take k) x=c)(j:c≠0):
 Cells ls (k+1) vl vc (upd sv x v) ((cs.setIfInBounds (18+x) (.int .i64 ((c+1:Nat):Int))).setIfInBounds (34+x) v):=by
 have hs:=h.size;refine⟨by simpa using hs,?_,?_,fun l hl=> ?_,fun l hl=> ?_,fun l hl=> ?_⟩
 ·rw[Array.getElem?_setIfInBounds_ne (by omega),Array.getElem?_setIfInBounds_ne (by omega),h.lens]
 ·rw[Array.getElem?_setIfInBounds_ne (by omega),Array.getElem?_setIfInBounds_ne (by omega),h.codes]
 ·rw[Array.getElem?_setIfInBounds_ne (by omega),Array.getElem?_setIfInBounds_ne (by omega),h.first l hl];unfold Dy;rw[JI hx h0];by_cases e:x=l
  ·subst e;rw[Aa (by omega),Aa (by simp)]
  ·rw[Aa e];rfl
 ·rw[Array.getElem?_setIfInBounds_ne (by omega),Gu,JI hx h0];by_cases e:x=l
  ·subst e;rw[Ab rfl,Ab (by omega),Ab rfl,hc]
  ·rw[Aa (by omega),Aa e,h.many l hl];rfl
 ·rw[Gu];unfold upd;by_cases e:x=l
  ·subst e;rw[Ab rfl,Ab (by simp;omega),Ab rfl]
  ·rw[Aa (by omega),Aa (Bg e),Array.getElem?_setIfInBounds_ne (by omega),h.syms l hl]
theorem Cells.fresh{ls:List Nat}{k x:Nat}{vl vc v:Value}{sv:Nat->Value}{cs:Array Value}(h:Cells ls k vl vc sv cs)(hx:ls[k]? =some x)(h0:x≠0)(j:x<=15)(hc:cn (ls.take k) x=0):
 Cells ls (k+1) vl vc (upd sv x v) (((cs.setIfInBounds (2+x) (.int .i64 (code ls k:Nat))).setIfInBounds (18+x) (.int .i64 ((0+1:Nat):Int))).setIfInBounds (34+x) v):=by
 have hs:=h.size;have i:code ls k=fst ls x:=by rw[Hl hx h0];unfold cn at hc;rw[Aa h0]at hc;omega
 refine⟨by simpa using hs,?_,?_,fun l hl=> ?_,fun l hl=> ?_,fun l hl=> ?_⟩
 ·rw[Array.getElem?_setIfInBounds_ne (by omega),Array.getElem?_setIfInBounds_ne (by omega),Array.getElem?_setIfInBounds_ne (by omega),h.lens]
 ·rw[Array.getElem?_setIfInBounds_ne (by omega),Array.getElem?_setIfInBounds_ne (by omega),Array.getElem?_setIfInBounds_ne (by omega),h.codes]
 ·rw[Array.getElem?_setIfInBounds_ne (by omega),Array.getElem?_setIfInBounds_ne (by omega),Gu];unfold Dy;rw[JI hx h0];by_cases e:x=l
  ·subst e;rw[Ab rfl,Ab (by omega),Aa (by simp),i]
  ·rw[Aa (by omega),h.first l hl,Aa e];rfl
 ·rw[Array.getElem?_setIfInBounds_ne (by omega),Gu,JI hx h0];by_cases e:x=l
  ·subst e;rw[Ab rfl,Ab (by simp;omega),Ab rfl,hc]
  ·rw[Aa (by omega),Aa e,Array.getElem?_setIfInBounds_ne (by omega),h.many l hl];rfl
 ·rw[Gu];unfold upd;by_cases e:x=l
  ·subst e;rw[Ab rfl,Ab (by simp;omega),Ab rfl]
  ·rw[Aa (by omega),Aa (Bg e),Array.getElem?_setIfInBounds_ne (by omega),Array.getElem?_setIfInBounds_ne (by omega),h.syms l hl]
structure Rows (w:World) (base:Nat) (ls:List Nat) (k:Nat) (sv:Nat->Value):Prop where
 own:∀l,l<16->w.ownsRow base 3 1 (sv l) (cn (ls.take k) l) (cZ .i64 (Dt (ls.take k) l))
 apart:∀l m x,l<16->m<16->l≠m->(sv l).ownBlock=some x->(sv m).ownBlock≠some x
theorem Rows.start(w:World)(base:Nat)(ls:List Nat):Rows w base ls 0 (fun _=> .slice none 0 0):=by
 refine⟨fun l hl=> ?_,fun l m x _ _ _ h=>by cases h⟩;have h1:cn (ls.take 0) l=0:=by simp[cn,Is]
 have h2:Dt (ls.take 0) l= []:=by unfold Dt;split<;>rfl
 rw[h1,h2];exact Am _ _ _ _
theorem Rows.kept{w w':World}{base k:Nat}{ls:List Nat}{sv:Nat->Value}(h:Rows w base ls k sv)(hk:∀l x,l<16->(sv l).ownBlock=some x->w'.heap[x]? =w.heap[x]?):Rows w' base ls k sv:=
 ⟨fun l hl=>dZ (h.own l hl) (fun x hx=>hk l x hl hx),h.apart⟩
theorem Rows.alloc{w:World}{base k:Nat}{ls:List Nat}{sv:Nat->Value}(h:Rows w base ls k sv)(o:Obj):Rows (w.alloc o) base ls k sv:=⟨fun l hl=>(h.own l hl).alloc o,h.apart⟩
theorem Rows.drew{w:World}{base k:Nat}{ls:List Nat}{sv:Nat->Value}(h:Rows w base ls k sv):Rows w.drew base ls k sv:=⟨h.own,h.apart⟩
theorem Rows.set{w:World}{base k g:Nat}{ls:List Nat}{sv:Nat->Value}{t:TypeId}{cs:Array Value}(h:Rows w base ls k sv)(hg:Blk w g t cs)(ht:3≠t)(i:Nat)(u:Value):Rows (w.setCell ⟨g,i,none⟩ u) base ls k sv:=
 h.kept fun l x hl hx=>AK w _ u x (fun e=>fZ (h.own l hl) hg ht (by rw[hx,e]))
theorem Rows.skip{w:World}{base k:Nat}{ls:List Nat}{sv:Nat->Value}(h:Rows w base ls k sv)(hx:ls[k]? =some 0):Rows w base ls (k+1) sv:=
 ⟨fun l hl=>by rw[L4 hx,TY hx];exact h.own l hl,h.apart⟩
theorem Rows.push{w w3:World}{base k x c g3 i:Nat}{ls:List Nat}{sv:Nat->Value}(h:Rows w base ls k sv)(hx:ls[k]? =some x)(h0:x≠0)(E:x<=15)(hc:cn (ls.take k) x=c)
 (j:w3.ownsRow base 3 1 (.slice (some ⟨g3,0,none⟩) (c+1) i) (c+1) (cZ .i64 (Dt (ls.take k) x)++ [.int .i64 (k:Nat)]))(hg:w.grownBy w3 (sv x).ownBlock)(z:(sv x).ownBlock=some g3∨g3=w.heap.size):
 Rows w3 base ls (k+1) (upd sv x (.slice (some ⟨g3,0,none⟩) (c+1) i)):=by
 refine⟨fun l hl=> ?_,fun a b y ha hb hab hy=> ?_⟩
 ·rw[JI hx h0,Uf hx h0];unfold upd;by_cases e:l=x
  ·subst e;rw[Ab rfl,Ab rfl,Ab rfl,hc];simpa[cZ]using j
  ·rw[Aa e,Aa (Bg e),Aa (Bg e),Fi];refine(h.own l hl).kept hg ?_;cases hb:(sv l).ownBlock with
   |none=>exact .inl rfl
   |some y=>exact .inr (fun e2=>h.apart l x y hl (by omega) e hb e2.symm)
 ·unfold upd at hy ⊢;by_cases e1:a=x
  ·subst e1;rw[Ab rfl]at hy;rw[Aa (Bg hab)];have hy:g3=y:=(by simpa[Value.ownBlock]using hy);subst hy;rcases z with h1|h1
   ·exact h.apart a b g3 ha hb hab h1
   ·intro h2;have:=(Ae (h.own b hb) g3 h2).2;omega
  ·rw[Aa e1]at hy;by_cases e2:b=x
   ·subst e2;rw[Ab rfl];intro h2;have h2:g3=y:=(by simpa[Value.ownBlock]using h2);subst h2;rcases z with h1|h1
    ·exact h.apart a b g3 ha hb hab hy h1
    ·have:=(Ae (h.own a ha) g3 hy).2;omega
   ·rw[Aa e2];exact h.apart a b y ha hb hab hy
end Huff
namespace Huff
open Go.RowKit Mem Canon Own
def RowIn(w:World)(lo B:Nat)(A:Option Addr)(n s:Nat)(f:Nat->Nat->Value):Prop:=
 0<n->∃b off,A=some ⟨b,off,none⟩/\(lo<=b/\b<B)/\∀i j,i<n->j<s->w.cell? ⟨b,off+(i*s+j),none⟩=some (f i j)
section
variable {w w':World} {lo lo' B B' n s:Nat} {A:Option Addr} {f g:Nat->Nat->Value}
theorem RowIn.row(h:RowIn w lo B A n s f):Row w B A n s f:=fun hn=>by obtain⟨b,i,e,hb,hc⟩:=h hn;exact⟨b,i,e,hb.2,hc⟩
theorem RowIn.keep(h:RowIn w lo B A n s f)(hk:∀p:Addr,lo<=p.block->p.block<B->w'.cell? p=w.cell? p):RowIn w' lo B A n s f:=fun hn=>by obtain⟨b,y,e,hb,hc⟩:=h hn;exact⟨b,y,e,hb,fun i j hi hj=>(hk _ hb.1 hb.2).trans (hc i j hi hj)⟩
theorem RowIn.mono(h:RowIn w lo B A n s f)(hl:lo'<=lo)(hB:B<=B'):RowIn w lo' B' A n s f:=fun hn=>by obtain⟨b,i,e,hb,hc⟩:=h hn;exact⟨b,i,e,⟨by omega,by omega⟩,hc⟩
theorem RowIn.of_own{base:Nat}{e:TypeId}{v:Value}{xs:List Value}{c:Nat}(h:w.ownsRow base e s v n xs)(hv:v= .slice A n c)(hf:∀i j,i<n->j<s->xs[i*s+j]? =some (f i j)):RowIn w base w.heap.size A n s f:=fun hn=>by
 rcases h.2 with ⟨_,h0⟩|⟨g,J,cur,z,hb,hh,G,_,E,y⟩
 ·omega
 ·rw[hv]at z;injection z with e1 e2 e3;refine⟨g,0,e1,⟨hb,Blk.lt hh⟩,fun i j hi hj=> ?_⟩;rw[Bq,Blk.cell hh];have:=hf i j hi hj;rw[<-y,Hs]at this;split at this
  ·simpa using this
  ·cases this
theorem RowIn.of_blk{t:TypeId}{cs:Array Value}{b:Nat}(h:Blk w b t cs)(hl:lo<=b)(hB:b<B)(hf:∀i j,i<n->j<s->cs[i*s+j]? =some (f i j)):RowIn w lo B (some ⟨b,0,none⟩) n s f:=
 fun _=>⟨b,0,rfl,⟨hl,hB⟩,fun i j hi hj=>by rw[Bq,h.cell];exact hf i j hi hj⟩
end
theorem numL_get{k:IntKind}{ls:List Nat}{i:Nat}(h:i<ls.length):(cZ k ls)[i*1+0]? =some (iZ k ls i 0):=by simp[cZ,iZ,List.getD_eq_getElem?_getD,h]
structure Coder (w:World) (lo B g:Nat) (ls:List Nat):Prop where
 ge:lo<=g
 lt:g<B
 free:∀i,w.frozen? ⟨g,i,none⟩=false
 lens:∃A c,w.cell? ⟨g,0,none⟩=some (.slice A ls.length c)/\RowIn w lo B A ls.length 1 (iZ .u8 ls)
 codes:∃A c,w.cell? ⟨g,1,none⟩=some (.slice A ls.length c)/\RowIn w lo B A ls.length 1 (fun i _=> .int .u16 (CE ls i:Nat))
 first:∀l,l<16->w.cell? ⟨g,2+l,none⟩=some (.int .i64 (Dy ls ls.length l:Nat))
 many:∀l,l<16->w.cell? ⟨g,18+l,none⟩=some (.int .i64 (cn ls l:Nat))
 syms:∀l,l<16->∃A c,w.cell? ⟨g,34+l,none⟩=some (.slice A (cn ls l) c)/\RowIn w lo B A (cn ls l) 1 (iZ .i64 (Dt ls l))
theorem Coder.keep{w w':World}{lo B g:Nat}{ls:List Nat}(h:Coder w lo B g ls)(hk:∀b,lo<=b->b<B->w'.heap[b]? =w.heap[b]?):Coder w' lo B g ls:=by
 have hg:=hk g h.ge h.lt;have hc:∀p:Addr,lo<=p.block->p.block<B->w'.cell? p=w.cell? p:=fun p h1 h2=>World.cell?_of_block (hk p.block h1 h2);have j:∀i,w'.cell? ⟨g,i,none⟩=w.cell? ⟨g,i,none⟩:=fun i=>World.cell?_of_block (a:=⟨g,i,none⟩) hg;refine⟨h.ge,h.lt,fun i=>(World.frozen?_of_block (a:=⟨g,i,none⟩) hg).trans (h.free i),?_,?_,fun l hl=>(j _).trans (h.first l hl),fun l hl=>(j _).trans (h.many l hl),fun l hl=> ?_⟩
 ·obtain⟨A,c,h1,h2⟩:=h.lens;exact⟨A,c,(j _).trans h1,h2.keep hc⟩
 ·obtain⟨A,c,h1,h2⟩:=h.codes;exact⟨A,c,(j _).trans h1,h2.keep hc⟩
 ·obtain⟨A,c,h1,h2⟩:=h.syms l hl;exact⟨A,c,(j _).trans h1,h2.keep hc⟩
theorem Coder.below{w w':World}{lo B g:Nat}{ls:List Nat}(h:Coder w lo B g ls){C:Nat}(hb:Below C w w')(hC:B<=C):Coder w' lo B g ls:=
 h.keep fun b _ h2=>hb.block b (by omega)
theorem Coder.mono{w:World}{lo lo' B B' g:Nat}{ls:List Nat}(h:Coder w lo B g ls)(hl:lo'<=lo)(hB:B<=B'):Coder w lo' B' g ls:=by
 refine⟨by have:=h.ge;omega,by have:=h.lt;omega,h.free,?_,?_,h.first,h.many,fun l hx=> ?_⟩
 ·obtain⟨A,c,h1,h2⟩:=h.lens;exact⟨A,c,h1,h2.mono hl hB⟩
 ·obtain⟨A,c,h1,h2⟩:=h.codes;exact⟨A,c,h1,h2.mono hl hB⟩
 ·obtain⟨A,c,h1,h2⟩:=h.syms l hx;exact⟨A,c,h1,h2.mono hl hB⟩
theorem TN{w w2 wr:World}{lo g gc n c2:Nat}{ls:List Nat}{A2:Option Addr}{sv:Nat->Value}{cs arr:Array Value}(hn:ls.length=n)(J:lo<=w.heap.size)(z1:w.heap.size<=g)(hg:g=w2.heap.size)
 (blk:Blk wr g 309 cs)(hC:Cells ls n (.slice A2 n c2) (.slice (some ⟨gc,0,none⟩) n n) sv cs)(hR:Rows wr (g+1) ls n sv)(h:Below g w2 wr)
 (y:w2.ownsRow w.heap.size 5 1 (.slice A2 n c2) n (cZ .u8 ls))(E:Blk w2 gc 47 arr)(G:lo<=gc)(hW:Wds ls n n arr):Coder wr lo wr.heap.size g ls:=by
 subst hn hg;have rz:=h.size;have z:ls.take ls.length=ls:=Bv (Aj _);refine⟨by omega,blk.lt,blk.frozen,⟨A2,c2,(blk.cell 0).trans hC.lens,?_⟩,⟨some ⟨gc,0,none⟩,ls.length,(blk.cell 1).trans hC.codes,?_⟩,fun l hl=>(blk.cell _).trans (hC.first l hl),fun l hl=> ?_,fun l hl=> ?_⟩
 ·have:=RowIn.of_own (f:=iZ .u8 ls) y rfl (fun i j hi hj=>by have e0:j=0:=(by omega);subst e0;exact numL_get hi);exact(this.keep (fun p _ h2=>h.cell h2)).mono J rz
 ·have:=RowIn.of_blk (n:=ls.length) (s:=1) (lo:=lo) (B:=w2.heap.size) (f:=fun i _=> .int .u16 (CE ls i:Nat)) E G E.lt (fun i j hi hj=>by
   obtain rfl:j=0:=by omega
   rw[EM,CW,hW.2 i hi,Ab hi])
  exact(this.keep (fun p _ h2=>h.cell h2)).mono (Aj _) rz
 ·have:=hC.many l hl;rw[z]at this;exact(blk.cell _).trans this
 ·have h1:=hR.own l hl;rw[z]at h1;obtain⟨A,c,e⟩:=aZ h1;have h2:=hC.syms l hl;rw[e]at h2;refine⟨A,c,(blk.cell _).trans h2,?_⟩;exact(RowIn.of_own (f:=iZ .i64 (Dt ls l)) h1 e (fun i j hi hj=>by have e0:j=0:=(by omega);subst e0;exact numL_get (by rw[Yc];exact hi))).mono (by omega) (Aj _)
end Huff
namespace Huff
open Go.RowKit Mem Canon Own
theorem TA:(Tryz.prog.info? 3).map (fun i=>(i.zero,i.size,i.bytes))=some (some (.int .i64 0),1,8):=by kernel_rfl
def U9(ls:List Nat)(w:World)(e:Ending)(w':World):Prop:=
 ∃g,e= .returned (.tuple #[.pointer (some ⟨g,0,none⟩), .int .i64 0])/\Coder w' w.heap.size w'.heap.size g ls/\Below w.heap.size w w'
theorem new_any(w:World)(A:Option Addr)(n c:Nat)(ls:List Nat)(hn:ls.length=n)(aj:okB ls=true)(al:A=none->n=0/\c=0)(ha:Row w w.heap.size A n 1 (iZ .u8 ls)):
 Calls Tryz.prog 224 #[.slice A n c] w (U9 ls w):=by
 obtain⟨ax,aE,_⟩:=Hg aj;rw[hn]at ax;have C1:=hid (Y4 w A n c ls hn aj ha);have C2:=hid (fun wx (h:Row wx wx.heap.size A n 1 (iZ .u8 ls))=>GY wx A n c ls hn (by omega) al h);have HN:=hid hn;have aL:=hid aE;have aN:=hid aj;obtain⟨j0,aJ,aH,aB,ay⟩:=info_parts TA;clear hn aj aE al;go_enter Tryz.func224,Tryz.ntmps224;go_wp2_with fail;refine C1.out.mono ?_;rintro e w1 ⟨gc,arr,rfl,bc,hw,aM,av⟩;have z1:=av.size;go_wp2_with fail;refine(C2.out _ ((ha.below av).mono z1)).mono ?_;rintro e w2 ⟨vl,rfl,af,aq⟩;have z2:=aq.size;have ar:=bc.step aq;have Q:Below w.heap.size w w2:=Cn aq z1 av;have HW:=hid hw;have aC:=ar.lt;have aO:=(ha.below Q).mono Q.size;clear hw bc C1 C2;obtain⟨A2,c2,rfl⟩:=aZ af;go_wp2_with fail;go_loopw [25] (fun i wr=>∃ (k:Nat) (sv:Nat->Value) (cs:Array Value),k<=n/\i= .int .i64 k/\Blk wr w2.heap.size 309 cs/\Hid (Cells ls k (.slice A2 n c2) (.slice (some ⟨gc,0,none⟩) n n) sv cs)/\Hid (Rows wr (w2.heap.size+1) ls k sv)/\Below w2.heap.size w2 wr) (fun i _=>n-(intOf i).toNat)
 case atStart=>exact⟨0,_,_,by omega,rfl,Blk.made _ _ _,Cells.start ls _ _,Rows.start _ _ _,bZ (Ag _ _)⟩
 case round=>
  obtain⟨k,sv,cs,hk,rfl,blk,hC,hR,G⟩:=hrel;have rz:=G.size;by_cases an:k<n
  ·obtain⟨b,aS,x,rfl,aP,hx,c0⟩:=Ci (aO.below G) HN.out an;have HX:=hid hx;have Z:=aL.out x (BF hx);have x0:(0:Int)<=(k:Int):=(by omega);have x1:(k:Int)<(n:Int):=(by omega);clear hx;by_cases ac:x=0
   ·subst ac;go_wp2_with fail;go_roundw
    case rel=>go_light;exact⟨k+1,sv,cs,by omega,by go_num,blk,hC.out.skip HX.out,hR.out.skip HX.out,G⟩
    case measure=>go_light;simp[intOf];omega
   ·have aA:=Ie (ls.take k) x;rw[AO]at aA;have xp:0<x:=(by omega);have y0:(0:Int)<=(x:Int):=(by omega);have y1:(x:Int)<16:=(by omega);have m0:=blk.cell (18+x);rw[hC.out.many x (by omega)]at m0;obtain⟨q,hq⟩:∃q,q=cn (ls.take k) x:=⟨_,rfl⟩;rw[<-hq]at m0 aA;have HQ:=hid hq;clear hq;by_cases ak:q=0
    ·have aQ:((q:Int)==0)=true:=(by simp;omega);have aF:=hid ak;clear ak;have d0:=(ar.below G aC).cell k;rw[HW.out.2 k an,Ab an]at d0;have f0:=blk.frozen (2+x);have f1:=blk.cell (2+x);rw[hC.out.first x (by omega)]at f1;have aD:=OZ aN.out HX.out ac;have aK:code ls k<65536:=De aD (by have:2 ^ x<=2 ^ 15:=Bu (by omega) Z;omega);have hv:CE ls k=code ls k:=Nat.mod_eq_of_lt aK;have L:=fun v=>hC.out.fresh (v:=v) HX.out ac Z (HQ.out.symm.trans aF.out);rw[hv]at d0;generalize code ls k=v at *;have aG:=hid L;clear hv L aD;go_upto_region 10 with fail;go_region;have z:=(blk.set (2+x) (.int .i64 (v:Nat))).drew;have ae:Hid (∀v',Cells ls (k+1) (.slice A2 n c2) (.slice (some ⟨gc,0,none⟩) n n) (upd sv x v') (((cs.setIfInBounds (2+x) (.int .i64 (v:Nat))).setIfInBounds (18+x) (.int .i64 ((q:Int)+1))).setIfInBounds (34+x) v')):=(by rw[aF.out];exact aG.out);clear aG;have M:(cs.setIfInBounds (2+x) (.int .i64 (v:Nat)))[18+x]? =some (.int .i64 ((q:Nat):Int)):=(by rw[Array.getElem?_setIfInBounds_ne (by omega),hC.out.many x (by omega),<-HQ.out]);have N:(cs.setIfInBounds (2+x) (.int .i64 (v:Nat)))[34+x]? =some (sv x):=(by rw[Array.getElem?_setIfInBounds_ne (by omega),hC.out.syms x (by omega)]);have RA:=hid ((hR.out.set blk (by decide) (2+x) (.int .i64 (v:Nat))).drew);have belA:=(nZ (p:=⟨w2.heap.size,2+x,none⟩) (u:= .int .i64 (v:Nat)) (Aj _) G).drew;have zA:=belA.size;clear m0 f0 f1 d0 c0 blk G rz;generalize cs.setIfInBounds (2+x) (.int .i64 (v:Nat))=aR at *;generalize (wr.setCell ⟨w2.heap.size,2+x,none⟩ (.int .i64 (v:Nat))).drew=wA at *;have mA:=z.cell (18+x);rw[M]at mA;have fA:=z.frozen (18+x);have s1:IntKind.i64.wrap ((q:Int)+1)=(q:Int)+1:=Ak _ (by omega);go_upto_region 11 with fail;go_region;clear s1 mA fA;have E:=(z.set (18+x) (.int .i64 ((q:Int)+1))).drew;have RB:=hid ((RA.out.set z (by decide) (18+x) (.int .i64 ((q:Int)+1))).drew);have Y:=(nZ (p:=⟨w2.heap.size,18+x,none⟩) (u:= .int .i64 ((q:Int)+1)) (Aj _) belA).drew;have zB:=Y.size;have sB:=E.cell (34+x);rw[Array.getElem?_setIfInBounds_ne (by omega),N]at sB;have fB:=E.frozen (34+x);have j:=RB.out.own x (by omega);rw[<-HQ.out]at j;have ah:=fZ j E (by decide);obtain⟨AS,cS,ab⟩:=aZ j;have ai:=hid ab;rw[ab]at sB j ah;clear M N z RA belA zA ab;generalize (wA.setCell ⟨w2.heap.size,18+x,none⟩ (.int .i64 ((q:Int)+1))).drew=wB at *;have am:=E.lt;have ag:some w2.heap.size≠(Value.slice AS q cS).ownBlock:=Bg ah;go_upto_region 12 with fail;go_region_law((refine step_append_lies _ (by rfl) _ _ _ (by rfl) (w2.heap.size+1) 3 j0 _ 1 8 Tryz.underlying30 aJ aH aB ay rfl (by omega) (.slice AS q cS) q (cZ .i64 (Dt (ls.take k) x)) (by rfl) ((j.alloc _).drew) ⟨wB.heap.size,0,none⟩ 1 1 [.int .i64 (k:Nat)] (by rfl) (by rfl) (World.news_of_block (cs:=#[.int .i64 (k:Nat)]) (t:=3) (fr:=(0,0)) (heap_alloc_new wB _)) (by intro u hu;simp at hu;subst hu;rfl) (by omega) (by unfold maxLen;omega) (by omega) (by simp;omega) (wB.heap.size+1) (by simp) ?_;intro g3 az w3 aa J aw aI;have gb:w3.heap[w2.heap.size]? =wB.heap[w2.heap.size]? :=(J.block w2.heap.size (by simp;omega) ag).trans (BI wB _ w2.heap.size am);have p3:=(World.cell?_of_block (a:=⟨w2.heap.size,34+x,none⟩) gb).trans sB;have p4:=(World.frozen?_of_block (a:=⟨w2.heap.size,34+x,none⟩) gb).trans fB))
     all_goals
      go_wp2_with fail;go_roundw
      case measure=>go_light;simp[intOf];omega
      case rel=>go_light;have U:Blk w3 w2.heap.size 309 _:=gb.trans E;have au:=Rows.push ((RB.out.alloc _).drew) HX.out ac Z HQ.out.symm aa (by rw[ai.out];exact J) (by rw[ai.out];simpa using aw);refine⟨k+1,_,_,by omega,by go_num,U.set _ _,ae.out _,au.set U (by decide) _ _,nZ (p:=⟨w2.heap.size,34+x,none⟩) (Aj _) (((kZ zB Y).drew).grown J (by simp;omega) (fun y hy=> ?_))⟩;have:=(Ae j y hy).1;omega
    ·have aT:((q:Int)==0)=false:=(by simp;omega);have L:=fun v=>hC.out.next (v:=v) HX.out ac Z HQ.out.symm ak;have ae:Hid (∀v',Cells ls (k+1) (.slice A2 n c2) (.slice (some ⟨gc,0,none⟩) n n) (upd sv x v') ((cs.setIfInBounds (18+x) (.int .i64 ((q:Int)+1))).setIfInBounds (34+x) v')):=L;have M:cs[18+x]? =some (.int .i64 ((q:Nat):Int)):=(by rw[hC.out.many x (by omega),<-HQ.out]);have N:=hC.out.syms x (by omega);have RA:=hR;have belA:=G;have zA:=rz;have z:=blk;obtain⟨wA,rfl⟩:∃wA:World,wA=wr:=⟨_,rfl⟩;clear blk G rz L ak;have mA:=z.cell (18+x);rw[M]at mA;have fA:=z.frozen (18+x);have s1:IntKind.i64.wrap ((q:Int)+1)=(q:Int)+1:=Ak _ (by omega);go_upto_region 11 with fail;go_region;clear s1 mA fA;have E:=(z.set (18+x) (.int .i64 ((q:Int)+1))).drew;have RB:=hid ((RA.out.set z (by decide) (18+x) (.int .i64 ((q:Int)+1))).drew);have Y:=(nZ (p:=⟨w2.heap.size,18+x,none⟩) (u:= .int .i64 ((q:Int)+1)) (Aj _) belA).drew;have zB:=Y.size;have sB:=E.cell (34+x);rw[Array.getElem?_setIfInBounds_ne (by omega),N]at sB;have fB:=E.frozen (34+x);have j:=RB.out.own x (by omega);rw[<-HQ.out]at j;have ah:=fZ j E (by decide);obtain⟨AS,cS,ab⟩:=aZ j;have ai:=hid ab;rw[ab]at sB j ah;clear M N z RA belA zA ab;generalize (wA.setCell ⟨w2.heap.size,18+x,none⟩ (.int .i64 ((q:Int)+1))).drew=wB at *;have am:=E.lt;have ag:some w2.heap.size≠(Value.slice AS q cS).ownBlock:=Bg ah;go_upto_region 12 with fail;go_region_law((refine step_append_lies _ (by rfl) _ _ _ (by rfl) (w2.heap.size+1) 3 j0 _ 1 8 Tryz.underlying30 aJ aH aB ay rfl (by omega) (.slice AS q cS) q (cZ .i64 (Dt (ls.take k) x)) (by rfl) ((j.alloc _).drew) ⟨wB.heap.size,0,none⟩ 1 1 [.int .i64 (k:Nat)] (by rfl) (by rfl) (World.news_of_block (cs:=#[.int .i64 (k:Nat)]) (t:=3) (fr:=(0,0)) (heap_alloc_new wB _)) (by intro u hu;simp at hu;subst hu;rfl) (by omega) (by unfold maxLen;omega) (by omega) (by simp;omega) (wB.heap.size+1) (by simp) ?_;intro g3 az w3 aa J aw aI;have gb:w3.heap[w2.heap.size]? =wB.heap[w2.heap.size]? :=(J.block w2.heap.size (by simp;omega) ag).trans (BI wB _ w2.heap.size am);have p3:=(World.cell?_of_block (a:=⟨w2.heap.size,34+x,none⟩) gb).trans sB;have p4:=(World.frozen?_of_block (a:=⟨w2.heap.size,34+x,none⟩) gb).trans fB))
     all_goals
      go_wp2_with fail;go_roundw
      case measure=>go_light;simp[intOf];omega
      case rel=>go_light;have U:Blk w3 w2.heap.size 309 _:=gb.trans E;have au:=Rows.push ((RB.out.alloc _).drew) HX.out ac Z HQ.out.symm aa (by rw[ai.out];exact J) (by rw[ai.out];simpa using aw);refine⟨k+1,_,_,by omega,by go_num,U.set _ _,ae.out _,au.set U (by decide) _ _,nZ (p:=⟨w2.heap.size,34+x,none⟩) (Aj _) (((kZ zB Y).drew).grown J (by simp;omega) (fun y hy=> ?_))⟩;have:=(Ae j y hy).1;omega
  ·obtain rfl:k=n:=by omega
   go_wp2_with fail;go_ret2;exact⟨w2.heap.size,rfl,TN HN.out z1 z2 rfl blk hC.out hR.out G af ar aM HW.out,Q.trans (G.mono Q.size)⟩
end Huff
namespace Huff
open Go.RowKit Mem Canon Own
theorem Coder.drew{w:World}{lo B g:Nat}{ls:List Nat}(h:Coder w lo B g ls):Coder w.drew lo B g ls:=h.keep fun _ _ _=>rfl
theorem Coder.kept{K:Nat->Prop}{w w':World}{lo B g:Nat}{ls:List Nat}(h:Coder w lo B g ls)(hk:Kept K w w')(hK:∀k,lo<=k->k<B->K k):Coder w' lo B g ls:=h.keep fun b h1 h2=>hk.block b (hK b h1 h2)
end Huff
namespace Canon
open Huff
def zrun(ls:List Nat)(i:Nat):Nat->Nat
 |0=>0
 |c+1=>if ls[i]? =some 0 then zrun ls (i+1) c+1 else 0
def wrGo(ls:List Nat):Nat->Nat->List Bool
 |0,_=> []
 |f+1,i=>
  if i<ls.length then
   if ls.getD i 0=0 then msb 0 4 4++(msb (zrun ls i 64-1) 6 6++wrGo ls f (i+zrun ls i 64))
   else msb (ls.getD i 0) 4 4++wrGo ls f (i+1)
  else []
def OX(ls:List Nat):List Bool:=wrGo ls ls.length 0
end Canon
namespace Huff
open Go.RowKit Mem Canon Own
end Huff
namespace Huff
open Go.RowKit Mem Canon Own
structure RCo (w:World) (lo B:Nat) (vl vc:Value) (ls:List Nat):Prop where
 lens:∃A c,vl= .slice A ls.length c/\RowIn w lo B A ls.length 1 (iZ .u8 ls)
 codes:∃A c,vc= .slice A ls.length c/\RowIn w lo B A ls.length 1 (fun i _=> .int .u16 (CE ls i:Nat))
theorem RCo.kept{K:Nat->Prop}{w w':World}{lo B:Nat}{vl vc:Value}{ls:List Nat}(h:RCo w lo B vl vc ls)(hk:Kept K w w')(hK:∀k,lo<=k->k<B->K k):RCo w' lo B vl vc ls:=by have hc:∀p:Addr,lo<=p.block->p.block<B->w'.cell? p=w.cell? p:=fun p h1 h2=>World.cell?_of_block (hk.block p.block (hK _ h1 h2));obtain⟨A,c,e,hr⟩:=h.lens;obtain⟨A',c',e',i⟩:=h.codes;exact⟨⟨A,c,e,hr.keep hc⟩,⟨A',c',e',i.keep hc⟩⟩
theorem RCo.mono{w:World}{lo lo' B B':Nat}{vl vc:Value}{ls:List Nat}(h:RCo w lo B vl vc ls)(hl:lo'<=lo)(hB:B<=B'):RCo w lo' B' vl vc ls:=by obtain⟨A,c,e,hr⟩:=h.lens;obtain⟨A',c',e',i⟩:=h.codes;exact⟨⟨A,c,e,hr.mono hl hB⟩,⟨A',c',e',i.mono hl hB⟩⟩
def SO(ls:List Nat)(w:World)(e:Ending)(w':World):Prop:=
 ∃vl vc,e= .returned (.tuple #[.agg #[vl,vc], .int .i64 0])/\RCo w' w.heap.size w'.heap.size vl vc ls/\Below w.heap.size w w'
theorem V8:(Tryz.prog.info? 245).map (·.size)=some 2:=by kernel_rfl
theorem rnew_any(w:World)(A:Option Addr)(n c:Nat)(ls:List Nat)(hn:ls.length=n)(U:okB ls=true)(N:A=none->n=0/\c=0)(ha:Row w w.heap.size A n 1 (iZ .u8 ls)):
 Calls Tryz.prog 181 #[.slice A n c] w (SO ls w):=by
 obtain⟨j0,aj,ai,ah,ag⟩:=info_parts Cr;obtain⟨Z,_,_⟩:=Hg U;rw[hn]at Z;have C:=hid (fun wx (h:Row wx wx.heap.size A n 1 (iZ .u8 ls))=>WD wx A n c ls hn U h);have HN:=hid hn;have ac:=hid N;clear hn U N;go_enter Tryz.func181,Tryz.ntmps181;go_wp2_with fail;refine(C.out _ ((ha.alloc (Aj _) _).mono (by simp))).mono ?_;rintro e w1 ⟨vc,rfl,L,M⟩;obtain⟨AC,cC,rfl⟩:=aZ L;have z1:=M.size;simp at z1;have y:Blk w1 w.heap.size 245 _:=(Blk.made w _ _).step M;have ak:=y.lt;have G:Below w.heap.size w w1:=(bZ (Ag _ _)).trans (M.mono (by simp));have z:=Hc (c:=c) (ha.below G) HN.out ac.out
 have Q:Src (w1.alloc (.cells #[] 5)) A n c 1 (cZ .u8 ls):=by
  refine⟨z.1,?_⟩;rcases z.2 with h|⟨ad,h1,h2⟩
  ·exact .inl h
  ·refine .inr ⟨ad,h1,fun j u hu=> ?_⟩;have hc:=h2 j u hu;exact(World.cell?_of_block (BI w1 _ _ (World.block_lt_of_cell? _ _ hc))).trans hc
 have Y:(w1.alloc (.cells #[] 5)).ownsRow w1.heap.size 5 1 (.slice (some ⟨w1.heap.size,0,none⟩) 0 0) 0 []:=World.ownsRow_made w1 #[] 0 (Aj _) (by unfold maxLen;omega) rfl;have c0:=y.cell 0;have c1:=y.cell 1;have f0:=y.frozen 0;have f1:=y.frozen 1;simp only[List.getElem?_toArray,List.getElem?_cons_zero,List.getElem?_cons_succ]at c0 c1;have ae:=hid Q;have HB:=hid G;have af:=hid L;clear z Q G ha C M L;go_wp2_with(at_builtin;refine gZ rfl (.tmp 15) (.tmp 16) 22 rfl w1.heap.size 5 j0 _ 1 1 Tryz.underlying22 aj ai ah ag rfl (by decide) _ _ _ (by rfl) Y _ n _ (cZ .u8 ls) (by rfl) ae.out (Cm _ _) (by unfold maxLen;omega) (by omega) (by simp) ?_;intro v3 w3 E aa al;obtain⟨A3,c3,rfl⟩:=aZ E;have gb:=(aa.block w.heap.size (by simp;omega) (by simp[Value.ownBlock];omega)).trans (BI w1 _ _ ak);have p0:=(World.cell?_of_block (a:=⟨w.heap.size,0,none⟩) gb).trans c0;have p1:=(World.cell?_of_block (a:=⟨w.heap.size,1,none⟩) gb).trans c1;have q0:=(World.frozen?_of_block (a:=⟨w.heap.size,0,none⟩) gb).trans f0;have q1:=(World.frozen?_of_block (a:=⟨w.heap.size,1,none⟩) gb).trans f1);rw[Bq,Gb]at E;have ab:Blk w3 w.heap.size _ _:=gb.trans y;have J:Below w1.heap.size w1 w3:=(bZ (Ag _ _)).grown aa (by simp) (fun k hk=>by simp[Value.ownBlock]at hk;omega);have z3:=J.size;refine AN (Canon.results_cell_tmp rfl _ _ w.heap.size _ #[.slice A3 n c3, .slice AC n cC] _ (.int .i64 0) rfl rfl ((ab.set 0 (.slice A3 n c3)).set 1 (.slice AC n cC)) Tryz.underlying245 rfl V8) rfl ⟨_,_,rfl,⟨⟨A3,c3,by rw[HN.out],?_⟩,⟨AC,cC,by rw[HN.out],?_⟩⟩,?_⟩
 ·have h:=RowIn.of_own (f:=iZ .u8 ls) (s:=1) E rfl (fun i j hi hj=>by have e0:j=0:=(by omega);subst e0;exact numL_get (by rw[HN.out];exact hi));rw[HN.out];refine(h.keep fun p h1 _=>World.cell?_of_block ?_).mono (by omega) (by simp);exact(AK _ _ _ _ (by simp;omega)).trans (AK _ _ _ _ (by simp;omega))
 ·have h:=RowIn.of_own (f:=fun i _=> .int .u16 (CE ls i:Nat)) (s:=1) af.out rfl (fun i j hi hj=>by have e0:j=0:=(by omega);subst e0;simp[hi]);rw[HN.out];refine(h.keep fun p h1 h2=>World.cell?_of_block ?_).mono (by simp) (by simp;omega);simp at h1;exact((AK _ _ _ _ (by simp;omega)).trans (AK _ _ _ _ (by simp;omega))).trans (J.block _ h2)
 ·exact nZ (p:=⟨w.heap.size,1,none⟩) (Aj _) (nZ (p:=⟨w.heap.size,0,none⟩) (Aj _) (HB.out.trans (J.mono (by omega))))
end Huff
namespace Huff
open Go.RowKit Mem Canon Own
def Rd(w:World)(lo g:Nat)(bs:List Bool)(at_:Nat):Prop:=
 ∃ (A:Option Addr) (n c:Nat) (ls:List Nat),Blk w g 346 #[.slice A n c, .int .i64 ((8*n:Nat):Int), .int .i64 at_]/\RowIn w lo g A n 1 (iZ .u8 ls)/\ls.length=n/\(∀x∈ls,x<=255)/\bs=AZ ls/\at_<=8*n/\n<=100000
theorem Rd.keep{w w':World}{lo g at_:Nat}{bs:List Bool}(h:Rd w lo g bs at_)(hk:∀b,lo<=b->b<=g->w'.heap[b]? =w.heap[b]?)(i:lo<=g):Rd w' lo g bs at_:=by obtain⟨A,n,c,ls,h1,h2,h3⟩:=h;exact⟨A,n,c,ls,(hk g i (Aj _)).trans h1,h2.keep (fun p ha hb=>World.cell?_of_block (hk p.block ha (by omega))),h3⟩
theorem Rd.drew{w:World}{lo g at_:Nat}{bs:List Bool}(h:Rd w lo g bs at_):Rd w.drew lo g bs at_:=h
theorem Rd.drewN{w:World}{lo g at_:Nat}{bs:List Bool}(h:Rd w lo g bs at_)(q:Nat):Rd (w.drewN q) lo g bs at_:=h
theorem Rd.moved{w:World}{lo g at_ k:Nat}{bs:List Bool}(h:Rd w lo g bs at_)(hk:at_+k<=bs.length):Rd (w.setCell ⟨g,2,none⟩ (.int .i64 ((at_:Int)+(k:Int)))) lo g bs (at_+k):=by
 obtain⟨A,n,c,ls,h1,h2,h3,h4,h5,h6,h7⟩:=h;refine⟨A,n,c,ls,?_,h2.keep (fun p _ hb=>World.cell?_of_block (AK w _ _ _ (show p.block≠g by omega))),h3,h4,h5,?_,h7⟩
 ·have h:=h1.set 2 (.int .i64 ((at_:Int)+(k:Int)));simpa using h
 ·rw[h5,CX]at hk;omega
theorem Rd.lt{w:World}{lo g at_:Nat}{bs:List Bool}(h:Rd w lo g bs at_):g<w.heap.size:=by obtain⟨A,n,c,ls,h1,_⟩:=h;exact h1.lt
theorem UP(y:Nat)(hy:y<18446744073709551616):bits .and .u64 (y:Int) 1=((y % 2:Nat):Int):=by have h:=bits_and_u64_nat y 1 hy (by omega);rw[Nat.and_one_is_mod]at h;exact h
theorem Ux(x y:Nat)(hx:x<9223372036854775808)(hy:y<=1):bits .or .u64 ((2*x:Nat):Int) (y:Int)=((2*x+y:Nat):Int):=by rw[bits_or_u64_nat _ _ (by omega) (by omega)];congr 1;have h:=Nat.two_pow_add_eq_or_of_lt (b:=y) (i:=1) (by omega) x;rw[show 2 ^ 1=2 from rfl]at h;exact h.symm
theorem RP(w:World)(g B:Nat)(A:Option Addr)(n c i:Nat)(ls:List Nat)(hn:ls.length=n)(hN:n<=100000)(h8:∀x∈ls,x<=255)(hi:i<8*n)(hg:w.cell? ⟨g,0,none⟩=some (.slice A n c))(ha:Row w B A n 1 (iZ .u8 ls)):
 Calls Tryz.prog 266 #[.pointer (some ⟨g,0,none⟩), .int .i64 (i:Nat)] w fun e w'=>e= .returned (.int .u64 (bit (AZ ls) i:Nat))/\w=w':=by
 have hv:=Nn (ls:=ls) (i:=i) (by omega);obtain⟨b,z,x,rfl,hb,hx,d0⟩:=Ci ha hn (show i / 8<n by omega);have j:=h8 x (BF hx);have h:ls.getD (i / 8) 0=x:=by simp[List.getD_eq_getElem?_getD,hx]
 rw[h]at hv;rw[hv];have x0:(0:Int)<=(i:Int) / 8:=by omega
 have x1:(i:Int) / 8<(n:Int):=by omega
 have x2:(0:Int)<=7-(i:Int) % 8:=by omega
 clear hv h hx h8 hn ha;go_enter Tryz.func266,Tryz.ntmps266;go_wp2_with fail;go_ret;refine⟨?_,rfl⟩;have e:((x:Int) / 2 ^ (7-i % 8))=((x / 2 ^ (7-i % 8):Nat):Int):=by simp
 have E:=GQ x (2 ^ (7-i % 8));show Ending.returned (.int .u64 (bits .and .u64 (IntKind.u64.wrap ((x:Int) / 2 ^ (7-i % 8))) 1))=_;rw[e];generalize x / 2 ^ (7-i % 8)=y at *;rw[show IntKind.u64.wrap (y:Int)=(y:Int) by rw[Br];omega,UP y (by omega)]
theorem number_any(w:World)(g B:Nat)(A:Option Addr)(n c at_ m:Nat)(ls:List Nat)(hn:ls.length=n)(hN:n<=100000)(h8:∀x∈ls,x<=255)(aa:at_<=8*n)(hm:m<=64)(hg:w.cell? ⟨g,0,none⟩=some (.slice A n c))(U:w.cell? ⟨g,1,none⟩=some (.int .i64 ((8*n:Nat):Int)))(ha:Row w B A n 1 (iZ .u8 ls)):
 Calls Tryz.prog 267 #[.pointer (some ⟨g,0,none⟩), .int .i64 (at_:Nat), .int .i64 (m:Nat)] w fun e w'=>e= .returned (.int .u64 (sZ (AZ ls) at_ m:Nat))/\w=w':=by
 have C:=hid (fun i h=>RP w g B A n c i ls hn hN h8 h hg ha);have HL:Hid ((AZ ls).length=8*n):=by show _=_;rw[CX,hn]
 generalize AZ ls=bs at *;generalize hz:8*n=z at *;have N:z<=800000:=by omega
 clear hn h8 ha hz;go_enter Tryz.func267,Tryz.ntmps267;go_wp2_with fail;go_loopw [7,8] (fun u j wr=>∃p x:Nat,at_<=p/\p<=at_+m/\j= .int .i64 (p:Nat)/\u= .int .u64 x/\Hid (x=sZ bs at_ (p-at_))/\w=wr) (fun _ j _=>at_+m-(intOf j).toNat)
 case atStart=>exact⟨at_,0,by omega,by omega,rfl,rfl,by show 0=_;rw[EL];rfl,rfl⟩
 case round=>
  obtain⟨p,x,Y,Q,rfl,rfl,hx,rfl⟩:=hrel;by_cases Z:p<at_+m
  ·have G:=DZ bs at_ (p-at_);rw[<-hx.out]at G;have J:x<9223372036854775808:=De G (by have:2 ^ (p-at_)<=2 ^ 63:=Bu (by omega) (by omega);omega);have E:sZ bs at_ (p+1-at_)=2*x+bit bs p:=(by rw[show p+1-at_=(p-at_)+1 by omega,sZ,<-hx.out,show at_+(p-at_)=p by omega]);by_cases L:p<z
   ·have M:=Ev bs p;have C2:=hid (C.out p L);generalize bit bs p=y at *;have HS:=hid E;clear E hx G;go_wp2_with fail;refine C2.out.mono ?_;rintro e w1 ⟨rfl,rfl⟩;go_wp2_with fail;go_roundw
    case measure=>go_light;simp[intOf];omega
    case rel=>go_light;have e:bits .or .u64 ((x:Int)*2) (y:Int)=((2*x+y:Nat):Int):=(by rw[<-Ux x y J M];congr 1;omega);exact⟨p+1,2*x+y,by omega,by omega,by go_num,by rw[e],HS.out.symm,trivial⟩
   ·rw[O8 (by rw[HL.out];omega)]at E;have HS:=hid E;clear E hx G;go_wp2_with fail;go_roundw
    case measure=>go_light;simp[intOf];omega
    case rel=>go_light;exact⟨p+1,2*x,by omega,by omega,by go_num,by go_num,HS.out.symm,trivial⟩
  ·obtain rfl:p=at_+m:=by omega
   go_wp2_with fail;go_ret;exact⟨by rw[hx.out,LH];rfl,rfl⟩
theorem left_any(w:World)(lo g:Nat)(bs:List Bool)(at_:Nat)(hR:Rd w lo g bs at_):
 Calls Tryz.prog 244 #[.pointer (some ⟨g,0,none⟩)] w fun e w'=>e= .returned (.int .i64 ((bs.length-at_:Nat):Int))/\∃q,w'=w.drewN q:=by
 obtain⟨A,n,c,ls,h1,h2,h3,h4,h5,h6,h7⟩:=hR;have hl:bs.length=8*n:=by rw[h5,CX,h3]
 rw[hl];have c1:=h1.cell 1;have c2:=h1.cell 2;simp only[List.getElem?_toArray,List.getElem?_cons_zero,List.getElem?_cons_succ]at c1 c2;have hz:8*n<=800000:=by omega
 generalize 8*n=z at *;have s1:IntKind.i64.wrap ((z:Int)-(at_:Int))=((z-at_:Nat):Int):=by rw[Ak _ (by omega)];omega
 clear h1 h2 h3 h4 h5 hl;go_enter Tryz.func244,Tryz.ntmps244;go_wp2_with fail;go_quiet (fail);go_wp2_with fail;go_ret;exact⟨rfl,_,rfl⟩
theorem Sy(w:World)(lo g:Nat)(bs:List Bool)(at_ k:Nat)(hk:k<=100000)(hR:Rd w lo g bs at_):
 Calls Tryz.prog 284 #[.pointer (some ⟨g,0,none⟩), .int .i64 (k:Nat)] w fun e w'=>e= .returned (.int .i64 (if at_+k<=bs.length then 0 else 1))/\Rd w' lo g bs (if at_+k<=bs.length then at_+k else at_)/\Kept (fun x=>x≠g) w w':=by
 have C:=hid (left_any w lo g bs at_ hR);have HR:=hid hR;have j:at_<=bs.length/\bs.length<=800000:=by obtain⟨A,n,c,ls,h1,h2,h3,h4,h5,h6,h7⟩:=hR;rw[h5,CX,h3];omega
 have c2:w.cell? ⟨g,2,none⟩=some (.int .i64 at_):=by obtain⟨A,n,c,ls,h1,_⟩:=hR;exact h1.cell 2
 have f2:w.frozen? ⟨g,2,none⟩=false:=by obtain⟨A,n,c,ls,h1,_⟩:=hR;exact h1.frozen 2
 obtain⟨z,hz⟩:∃z,z=bs.length:=⟨_,rfl⟩;rw[<-hz]at C j ⊢;have HZ:=hid hz;obtain⟨y,E⟩:=j;clear hR hz;by_cases i:at_+k<=z
 ·rw[Ab i,Ab i];have x1:(k:Int)<=((z-at_:Nat):Int):=by omega
  go_enter Tryz.func284,Tryz.ntmps284;go_wp2_with fail;refine C.out.mono ?_;rintro e w1 ⟨rfl,q,rfl⟩;go_wp2_with fail;go_ret;exact⟨rfl,(HR.out.drewN q).moved (by rw[<-HZ.out];exact i),Kept.set (p:=⟨g,2,none⟩) ((Kept.refl _ w).drewN q) (fun h=>h rfl) _⟩
 ·rw[Aa i,Aa i];have x1:¬(k:Int)<=((z-at_:Nat):Int):=by omega
  go_enter Tryz.func284,Tryz.ntmps284;go_wp2_with fail;refine C.out.mono ?_;rintro e w1 ⟨rfl,q,rfl⟩;go_wp2_with fail;go_ret;exact⟨rfl,HR.out.drewN q,(Kept.refl _ w).drewN q⟩
theorem Y1(w:World)(lo g:Nat)(bs:List Bool)(at_ m:Nat)(hm:m<=64)(hR:Rd w lo g bs at_):
 Calls Tryz.prog 282 #[.pointer (some ⟨g,0,none⟩), .int .i64 (m:Nat)] w fun e w'=>e= .returned (.tuple #[.int .u64 (sZ bs at_ m:Nat), .int .i64 ((min m (bs.length-at_):Nat):Int)])/\∃q,w'=w.drewN q:=by
 have C1:=hid (fun q=>left_any (w.drewN q) lo g bs at_ (hR.drewN q));obtain⟨A,n,c,ls,h1,h2,h3,h4,h5,h6,h7⟩:=hR;have c0:=h1.cell 0;have c1:=h1.cell 1;have c2:=h1.cell 2;simp only[List.getElem?_toArray,List.getElem?_cons_zero,List.getElem?_cons_succ]at c0 c1 c2;have C2:=hid (fun q=>(number_any (w.drewN q) g g A n c at_ m ls h3 h7 h4 h6 hm c0 c1 (h2.row.drewN q)).mono (fun e w' h=>And.intro h.1 h.2.symm));rw[<-h5]at C2;generalize bs.length-at_=d at *;generalize sZ bs at_ m=y at *;clear h1 h2 h3 h4 h5 h6 c0 c1;go_enter Tryz.func282,Tryz.ntmps282;go_wp2_with fail;go_quiet (first|(go_at_call 267;exact B0 (C2.out _))|(go_at_call 244;exact Calls.quiet_of (C1.out _)));go_wp2_with fail
 all_goals
  go_ret2;refine⟨?_,_,rfl⟩
  first
  |(rw[show min m d=d by omega];rfl)
  |(rw[show min m d=m by omega];rfl)
theorem Rd.cellAt{w:World}{lo g at_:Nat}{bs:List Bool}(h:Rd w lo g bs at_):w.cell? ⟨g,2,none⟩=some (.int .i64 at_):=by obtain⟨A,n,c,ls,h1,_⟩:=h;exact h1.cell 2
theorem Nf(w:World)(lo g:Nat)(bs:List Bool)(at_ m:Nat)(hm:m<=64)(hR:Rd w lo g bs at_)(q:Nat):
 Calls Tryz.prog 267 #[.pointer (some ⟨g,0,none⟩), .int .i64 (at_:Nat), .int .i64 (m:Nat)] (w.drewN q) fun e w'=>e= .returned (.int .u64 (sZ bs at_ m:Nat))/\w'=w.drewN q:=by
 obtain⟨A,n,c,ls,h1,h2,h3,h4,h5,h6,h7⟩:=hR;have c0:=h1.cell 0;have c1:=h1.cell 1;have h:=(number_any (w.drewN q) g g A n c at_ m ls h3 h7 h4 h6 hm c0 c1 (h2.row.drewN q)).mono (fun e w' h=>And.intro h.1 h.2.symm);rw[<-h5]at h;exact h
def Dn(bs:List Bool)(at_:Nat):Int:=if bs.length-at_≥8∨sZ bs at_ (bs.length-at_)≠0 then 2 else 0
theorem Uh(w:World)(lo g:Nat)(bs:List Bool)(at_:Nat)(hR:Rd w lo g bs at_):
 Calls Tryz.prog 270 #[.pointer (some ⟨g,0,none⟩)] w fun e w'=>e= .returned (.int .i64 (Dn bs at_))/\∃q,w'=w.drewN q:=by
 have C1:=hid (left_any w lo g bs at_ hR);have HR:=hid hR;clear hR;by_cases h8:bs.length-at_<8
 ·by_cases h0:sZ bs at_ (bs.length-at_)=0
  ·have hE:Dn bs at_=0:=(by unfold Dn;rw[Aa (by omega)]);rw[hE];clear hE;have H0:=hid h0;clear h0;go_enter Tryz.func270,Tryz.ntmps270;go_wp2_with fail;refine C1.out.mono ?_;rintro e w1 ⟨rfl,q1,h⟩;have i:Rd w1 lo g bs at_:=(by rw[h];exact HR.out.drewN q1);have c2:=i.cellAt;have HQ:=hid h;clear h;have C2:=hid (Nf w1 lo g bs at_ (bs.length-at_) (by omega) i);rw[H0.out]at C2;clear i;generalize bs.length-at_=d at *;have j:decide ((8:Int)<=(d:Int))=false:=(by simp;omega);go_wp2_with fail;go_quiet (first|(go_at_call 267;exact B0 (C2.out _)));go_wp2_with fail;go_ret;refine⟨rfl,?_⟩;rw[HQ.out];exact⟨_,CL _ _ _⟩
  ·have hE:Dn bs at_=2:=(by unfold Dn;rw[Ab (.inr h0)]);rw[hE];clear hE;go_enter Tryz.func270,Tryz.ntmps270;go_wp2_with fail;refine C1.out.mono ?_;rintro e w1 ⟨rfl,q1,h⟩;have i:Rd w1 lo g bs at_:=(by rw[h];exact HR.out.drewN q1);have c2:=i.cellAt;have HQ:=hid h;clear h;have C2:=hid (Nf w1 lo g bs at_ (bs.length-at_) (by omega) i);clear i;generalize bs.length-at_=d at *;generalize sZ bs at_ d=y at *;have z:((y:Int) != 0)=true:=bne_iff_ne.mpr (by omega);clear h0;have j:decide ((8:Int)<=(d:Int))=false:=(by simp;omega);go_wp2_with fail;go_quiet (first|(go_at_call 267;exact B0 (C2.out _)));go_wp2_with fail;go_ret;refine⟨rfl,?_⟩;rw[HQ.out];exact⟨_,CL _ _ _⟩
 ·have hE:Dn bs at_=2:=by unfold Dn;rw[Ab (.inl (by omega))]
  rw[hE];clear hE;go_enter Tryz.func270,Tryz.ntmps270;go_wp2_with fail;refine C1.out.mono ?_;rintro e w1 ⟨rfl,q1,h⟩;have i:Rd w1 lo g bs at_:=by rw[h];exact HR.out.drewN q1
  have c2:=i.cellAt;have HQ:=hid h;clear h;clear i;generalize bs.length-at_=d at *;have j:decide ((8:Int)<=(d:Int))=true:=by simp;omega
  go_wp2_with fail;go_quiet (fail);go_wp2_with fail;go_ret;refine⟨rfl,?_⟩;rw[HQ.out];exact⟨_,CL _ _ _⟩
theorem O6(w:World)(A:Option Addr)(n c:Nat)(ls:List Nat)(hn:ls.length=n)(J:n<=100000)(h8:∀x∈ls,x<=255)(z:A=none->n=0/\c=0)(ha:Row w w.heap.size A n 1 (iZ .u8 ls)):
 Calls Tryz.prog 241 #[.slice A n c] w fun e w'=>∃g,e= .returned (.pointer (some ⟨g,0,none⟩))/\Rd w' w.heap.size g (AZ ls) 0/\w.heap.size<=g/\Below w.heap.size w w':=by
 have C:=hid (GY w A n c ls hn J z ha);have HN:=hid hn;have H8:=hid h8;clear hn h8 z ha;go_enter Tryz.func241,Tryz.ntmps241;go_wp2_with fail;refine C.out.mono ?_;rintro e w1 ⟨v,rfl,y,G⟩;obtain⟨A1,c1,rfl⟩:=aZ y;have z1:=G.size;have E:=RowIn.of_own (f:=iZ .u8 ls) (s:=1) y rfl (fun i j hi hj=>by have e0:j=0:=(by omega);subst e0;exact numL_get (by rw[HN.out];exact hi));have L:=hid E;clear y E C;go_wp2_with fail;go_ret;refine⟨_,rfl,⟨A1,n,c1,ls,?_,?_,HN.out,H8.out,rfl,by omega,J⟩,z1,kZ z1 G⟩
 ·have h:=Blk.made w1 346 #[.slice A1 n c1, .int .i64 ((8*n:Nat):Int), .int .i64 ((0:Nat):Int)];simpa using h
 ·exact L.out.keep (fun p _ h=>World.cell?_alloc_lt (w:=w1) (a:=p) (o:=_) h)
end Huff
namespace Huff
open Go.RowKit Mem Canon Own
theorem LA{ls:List Nat}{l:Nat}(h:0<cn ls l):Dy ls ls.length l=fst ls l:=by unfold Dy;rw[List.take_length,Aa (by omega)]
theorem OH{ls:List Nat}{l:Nat}(h:cn ls l=0):Dy ls ls.length l=0:=by unfold Dy;rw[List.take_length,Ab h]
theorem Na{ls:List Nat}(i:okB ls=true)(l:Nat)(hl:l<=15):Dy ls ls.length l+cn ls l<=65536:=by
 obtain⟨h1,h2,h3⟩:=Hg i;have h4:=Ie ls l;by_cases h:0<cn ls l
 ·rw[LA h];have h5:=Km ls l hl;have h6:=JT ls (show l+1<=16 by omega);have h7:(fst ls l+cn ls l)*1<=(fst ls l+cn ls l)*2 ^ (15-l):=Nat.mul_le_mul_left _ (Ga _);omega
 ·rw[OH (by omega)];omega
theorem T7(w:World)(lo B g:Nat)(ls:List Nat)(y l k s:Nat)(j:okB ls=true)(hC:Coder w lo B g ls)(h0:0<l)(hl:l<=15)(hk:k<cn ls l)(hy:y=fst ls l+k)(hs:(symsOf ls l)[k]? =some s):
 Calls Tryz.prog 283 #[.pointer (some ⟨g,0,none⟩), .int .u64 (y:Nat), .int .i64 (l:Nat)] w fun e w'=>e= .returned (.tuple #[.int .i64 s, .bool true])/\w=w':=by
 have hF:=Na j l hl;have c1:=hC.first l (by omega);have c2:=hC.many l (by omega);obtain⟨AS,cS,c3,i⟩:=hC.syms l (by omega);obtain⟨b,E,rfl,_,h⟩:=i (by omega);have c4:=h k 0 hk (by omega);have z:Dt ls l=symsOf ls l:=by unfold Dt;rw[Aa (by omega)]
 rw[z]at c4;have c5:w.cell? ⟨b,E+k,none⟩=some (.int .i64 s):=by simpa[iZ,List.getD_eq_getElem?_getD,hs]using c4
 rw[LA (by omega)]at c1 hF;generalize fst ls l=F at *;generalize cn ls l=M at *;have G:s<=300:=by have h1:=(Qj ls k s hs).1;have h2:=(BO.1 h1).1;have h3:=(Hg j).1;omega
 have x0:(0:Int)<=(l:Int):=by omega
 have x1:(l:Int)<16:=by omega
 have x2:(0:Int)<=(k:Int):=by omega
 have x3:(k:Int)<(M:Int):=by omega
 have x4:¬(k:Int)<0:=by omega
 have s1:IntKind.i64.wrap ((y:Int)-(F:Int))=(k:Int):=by rw[Ak _ (by omega)];omega
 have s2:IntKind.i64.wrap (y:Int)=(y:Int):=Ak _ (by omega);clear hF i h c4 z hs j hC hy;go_enter Tryz.func283,Tryz.ntmps283;go_wp2_with fail;go_ret2;exact⟨rfl,rfl⟩
theorem TP(w:World)(lo B g:Nat)(ls:List Nat)(y l:Nat)(j:okB ls=true)(hC:Coder w lo B g ls)(h0:0<l)(hl:l<=15)(J:y<=65535)(hy:y<fst ls l∨fst ls l+cn ls l<=y):
 Calls Tryz.prog 283 #[.pointer (some ⟨g,0,none⟩), .int .u64 (y:Nat), .int .i64 (l:Nat)] w fun e w'=>e= .returned (.tuple #[.int .i64 0, .bool false])/\w=w':=by
 have hF:=Na j l hl;have c1:=hC.first l (by omega);have c2:=hC.many l (by omega)
 have i:(y:Int)-(Dy ls ls.length l:Nat)<0∨((cn ls l:Nat):Int)<=(y:Int)-(Dy ls ls.length l:Nat):=by
  by_cases h:0<cn ls l
  ·rw[LA h];omega
  ·rw[OH (by omega)];omega
 generalize Dy ls ls.length l=F at *;generalize cn ls l=M at *;have x0:(0:Int)<=(l:Int):=by omega
 have x1:(l:Int)<16:=by omega
 have s2:IntKind.i64.wrap (y:Int)=(y:Int):=Ak _ (by omega);obtain⟨z,hz⟩:∃z:Int,z=(y:Int)-(F:Int):=⟨_,rfl⟩;have s1:IntKind.i64.wrap ((y:Int)-(F:Int))=z:=by rw[Ak _ (by omega),hz]
 rw[<-hz]at i;clear j hC hy hF hz;by_cases E:z<0
 ·clear i;go_enter Tryz.func283,Tryz.ntmps283;go_wp2_with fail;go_ret2;exact⟨rfl,rfl⟩
 ·have G:(M:Int)<=z:=by omega
  clear i;go_enter Tryz.func283,Tryz.ntmps283;go_wp2_with fail;go_ret2;exact⟨rfl,rfl⟩
def meets(ls:List Nat)(y l k:Nat):Prop:=0<cn ls k/\y*2 ^ (k-l)<fst ls k+cn ls k/\fst ls k<y*2 ^ (k-l)+2 ^ (k-l)
instance (ls:List Nat) (y l k:Nat):Decidable (meets ls y l k):=by unfold meets;infer_instance
def G6(ls:List Nat)(y l:Nat):Bool:=(List.range 16).any fun k=>decide (l<k/\meets ls y l k)
theorem Ow{ls:List Nat}{y l k:Nat}(h1:l<k)(h2:k<=15)(h3:meets ls y l k):G6 ls y l=true:=by unfold G6;rw[List.any_eq_true];exact⟨k,Eo.2 (by omega),by simpa using ⟨h1,h3⟩⟩
theorem Mv{ls:List Nat}{y l:Nat}(h:∀k,l<k->k<16->¬meets ls y l k):G6 ls y l=false:=by unfold G6;rw[List.any_eq_false];intro k hk;have:=Eo.1 hk;simp only[decide_eq_true_eq,not_and];exact fun h1=>h k h1 this
theorem Ud{ls:List Nat}(h:∀x∈ls,x<=15)(X there:Nat):G6 ls (X / 2 ^ (15-there)) there=(List.range ls.length).any (Dm ls X there):=by
 cases hb:(List.range ls.length).any (Dm ls X there)
 ·refine Mv fun k h1 h2 h3=> ?_;obtain⟨s,hs,hc⟩:=Us h1 h3.1 h3.2.1 h3.2.2;rw[List.any_eq_false]at hb;have:=hb s (Eo.2 (BO.1 hs).1);exact this (KM.2 ⟨k,hs,h1,hc.symm⟩)
 ·rw[List.any_eq_true]at hb;obtain⟨s,_,hs⟩:=hb;obtain⟨k,hk,h1,hc⟩:=KM.1 hs;exact Ow h1 (h k (BF hk)) (Ub h1 hk hc.symm)
theorem LZ(n:Nat)(h:n<=65536):wrap64 (n:Int)=(n:Int):=IC _ (by omega)
theorem Rs(d:Nat):((2:Int) ^ d)=((2 ^ d:Nat):Int):=by simp
theorem Yt(y d:Nat)(h:y*2 ^ d<2 ^ 15):wrap64 ((y:Int)*2 ^ d)=((y*2 ^ d:Nat):Int):=by rw[Rs,<-Int.natCast_mul];exact LZ _ (by omega)
theorem T0(P d:Nat)(hP:P<2 ^ 15)(h:2 ^ d<=2 ^ 15):wrap64 ((P:Int)+wrap64 (2 ^ d))=(P:Int)+((2 ^ d:Nat):Int):=by rw[Rs,LZ _ (by omega),<-Int.natCast_add];exact LZ _ (by omega)
theorem YT(w:World)(lo B g:Nat)(ls:List Nat)(y l:Nat)(ac:okB ls=true)(hC:Coder w lo B g ls)(hl:l<15)(hy:y<2 ^ l):
 Calls Tryz.prog 285 #[.pointer (some ⟨g,0,none⟩), .int .u64 (y:Nat), .int .i64 (l:Nat)] w fun e w'=>e= .returned (.bool (G6 ls y l))/\∃q,w'=w.drewN q:=by
 have HC:=hid hC;have ag:=hid ac;have HY:=hid hy;have aj:y<=32768:=by have:2 ^ l<=2 ^ 15:=Bu (by omega) (by omega);omega
 clear ac hC hy;go_enter Tryz.func285,Tryz.ntmps285;go_wp2_with fail;go_loopw [7] (fun i wr=>∃k:Nat,l<k/\k<=16/\i= .int .i64 k/\Hid (∀j,l<j->j<k->¬meets ls y l j)/\Hid (∃q,wr=w.drewN q)) (fun i _=>16-(intOf i).toNat)
 case atStart=>exact⟨l+1,by omega,by omega,by go_num,(fun j h1 h2=>by omega),⟨0,rfl⟩⟩
 case round=>
  obtain⟨k,ah,ak,rfl,G,L⟩:=hrel;by_cases af:k<16
  ·have ab:Coder wr lo B g ls:=(by obtain⟨q,hq⟩:=L.out;rw[hq];exact HC.out.keep (fun _ _ _=>rfl));have c1:=ab.first k af;have c2:=ab.many k af;have hF:=Na ag.out k (by omega);have aa:2 ^ (k-l)<=2 ^ 15:=Bu (by omega) (by omega);have Y:y*2 ^ (k-l)<2 ^ 15:=by have h1:y*2 ^ (k-l)<2 ^ l*2 ^ (k-l):=Nat.mul_lt_mul_of_pos_right HY.out (Ga _);rw[<-Nat.pow_add,show l+(k-l)=k by omega]at h1;have h2:2 ^ k<=2 ^ 15:=Bu (by omega) (by omega);omega
   have Z:meets ls y l k↔0<cn ls k/\y*2 ^ (k-l)<Dy ls ls.length k+cn ls k/\Dy ls ls.length k<y*2 ^ (k-l)+2 ^ (k-l):=by
    unfold meets;by_cases h:0<cn ls k
    ·rw[LA h]
    ·constructor
     ·intro h1;exact absurd h1.1 h
     ·intro h1;exact absurd h1.1 h
   have x0:(0:Int)<=(k:Int):=(by omega);have x1:(k:Int)<16:=(by omega);have x2:(0:Int)<=(k:Int)-(l:Int):=(by omega);go_upto_region 5 with fail;obtain⟨D,hD⟩:∃D,D=2 ^ (k-l):=⟨_,rfl⟩;obtain⟨P,hP⟩:∃P,P=y*D:=⟨_,rfl⟩;rw[<-hD]at aa Y Z;rw[<-hP]at Y Z;generalize Dy ls ls.length k=F at *;generalize cn ls k=M at *;have e:=Yt y (k-l) (by rw[<-hD,<-hP];exact Y);rw[<-hD,<-hP]at e;have e2:=T0 P (k-l) Y (by rw[<-hD];exact aa);rw[<-hD]at e2;rw[e];clear e;have s1:IntKind.i64.wrap ((F:Int)+(M:Int))=(F:Int)+(M:Int):=Ak _ (by omega);have J:=hid Z;clear hP ab Z;by_cases hM:0<M
   ·by_cases h1:P<F+M
    ·have g1:decide ((P:Int)<(F:Int)+(M:Int))=true:=(by simp;omega);by_cases h2:F<P+D
     ·have g2:decide ((F:Int)<wrap64 ((P:Int)+wrap64 (2 ^ (k-l))))=true:=(by rw[e2];simp;omega);have HA:=hid (Ow ah (by omega) (J.out.2 ⟨hM,h1,h2⟩));clear hD e2 h1 h2;go_quiet (fail);go_wp2_with fail;go_ret;obtain⟨q,rfl⟩:=L.out;exact⟨by rw[HA.out];rfl,_,CL _ _ _⟩
     ·have g2:decide ((F:Int)<wrap64 ((P:Int)+wrap64 (2 ^ (k-l))))=false:=(by rw[e2];simp;omega);have E:¬meets ls y l k:=fun h=>h2 (J.out.1 h).2.2
      have z:∀j,l<j->j<k+1->¬meets ls y l j:=by
       intro j N ae;by_cases U:j=k
       ·rw[U];exact E
       ·exact G.out j N (by omega)
      have Q:=hid z;clear hD e2 h1 h2 E z G J;go_quiet (fail);go_wp2_with fail;go_roundw
      case measure=>go_light;simp[intOf];omega
      case rel=>go_light;refine⟨k+1,by omega,by omega,by go_num,Q.out,?_⟩;obtain⟨q,rfl⟩:=L.out;exact⟨_,CL _ _ _⟩
    ·have g1:decide ((P:Int)<(F:Int)+(M:Int))=false:=(by simp;omega);have E:¬meets ls y l k:=fun h=>h1 (J.out.1 h).2.1;have h2:=0
     have z:∀j,l<j->j<k+1->¬meets ls y l j:=by
      intro j N ae;by_cases U:j=k
      ·rw[U];exact E
      ·exact G.out j N (by omega)
     have Q:=hid z;clear hD e2 h1 h2 E z G J;go_quiet (fail);go_wp2_with fail;go_roundw
     case measure=>go_light;simp[intOf];omega
     case rel=>go_light;refine⟨k+1,by omega,by omega,by go_num,Q.out,?_⟩;obtain⟨q,rfl⟩:=L.out;exact⟨_,CL _ _ _⟩
   ·have ai:M=0:=(by omega);subst ai;have E:¬meets ls y l k:=fun h=>hM (J.out.1 h).1;have h1:=0;have h2:=0
    have z:∀j,l<j->j<k+1->¬meets ls y l j:=by
     intro j N ae;by_cases U:j=k
     ·rw[U];exact E
     ·exact G.out j N (by omega)
    have Q:=hid z;clear hD e2 h1 h2 E z G J;go_quiet (fail);go_wp2_with fail;go_roundw
    case measure=>go_light;simp[intOf];omega
    case rel=>go_light;refine⟨k+1,by omega,by omega,by go_num,Q.out,?_⟩;obtain⟨q,rfl⟩:=L.out;exact⟨_,CL _ _ _⟩
  ·obtain rfl:k=16:=by omega
   have HA:=hid (Mv G.out);go_wp2_with fail;go_ret;exact⟨by rw[HA.out];rfl,L.out⟩
end Huff
namespace Huff
open Go.RowKit Mem Canon Own
theorem Mc(X d:Nat):((X / 2 ^ d:Nat):Int)=(X:Int) / 2 ^ d:=by simp
theorem RC(bs:List Bool)(at_:Nat):head bs at_<32768:=DZ bs at_ 15
theorem VR(X l:Nat)(hX:X<32768)(hl:l<=15):X / 2 ^ (15-l)<2 ^ l:=by
 apply Nat.div_lt_of_lt_mul
 rw[<-Nat.pow_add,show 15-l+l=15 by omega];omega
def J6(ls:List Nat)(bs:List Bool)(at_ lo g:Nat)(w:World)(e:Ending)(w':World):Prop:=
 e= .returned (.tuple #[.int .i64 (Cf ls (head bs at_) (there bs at_)).1, .int .i64 (Cf ls (head bs at_) (there bs at_)).2.1])/\
  Rd w' lo g bs (at_+(Cf ls (head bs at_) (there bs at_)).2.2)/\Kept (fun x=>x≠g) w w'
theorem Rq(w:World)(G cB gc lo g:Nat)(ls:List Nat)(bs:List Bool)(at_:Nat)(aa:okB ls=true)(hC:Coder w G cB gc ls)(hR:Rd w lo g bs at_):
 Calls Tryz.prog 278 #[.pointer (some ⟨gc,0,none⟩), .pointer (some ⟨g,0,none⟩)] w (J6 ls bs at_ lo g w):=by
 have C1:=hid (Y1 w lo g bs at_ 15 (by omega) hR);have hX:=RC bs at_;have ag:there bs at_<=15:=by unfold there;omega
 have an:there bs at_<=bs.length-at_:=by unfold there;omega
 have am:at_<=bs.length:=by obtain⟨A,n,c,l,h1,h2,h3,h4,h5,h6,h7⟩:=hR;rw[h5,CX,h3];exact h6
 change Hid (Calls _ _ _ _ fun e w'=>e= .returned (.tuple #[.int .u64 (head bs at_:Nat), .int .i64 (there bs at_:Nat)])/\∃q,w'=w.drewN q)at C1
 unfold J6;generalize head bs at_=X at *;generalize there bs at_=th at *;have HC:=hid hC;have HR:=hid hR;have L:=hid aa;clear hC hR aa;go_enter Tryz.func278,Tryz.ntmps278;go_wp2_with fail;refine C1.out.mono ?_;rintro e w1 ⟨rfl,q1,M⟩;have Z:Hid (Coder w1 G cB gc ls):=by show Coder w1 G cB gc ls;rw[M];exact HC.out.keep (fun _ _ _=>rfl)
 have N:Hid (Rd w1 lo g bs at_):=by show Rd w1 lo g bs at_;rw[M];exact HR.out
 have Y:Hid (Kept (fun x=>x≠g) w w1):=by show Kept _ w w1;rw[M];exact(Kept.refl _ w).drewN q1
 clear M C1;go_wp2_with fail;go_loopw [8] (fun i wr=>∃l:Nat,1<=l/\l<=th+1/\i= .int .i64 l/\Hid (∀s,hit ls X (l-1) s=false)/\w1=wr) (fun i _=>17-(intOf i).toNat)
 case atStart=>exact⟨1,by omega,by omega,rfl,UK ls X,rfl⟩
 case round=>
  obtain⟨l,aq,ar,rfl,E,rfl⟩:=hrel;by_cases ak:l<=th
  ·by_cases J:∃k,k<cn ls l/\X / 2 ^ (15-l)=fst ls l+k
   ·obtain⟨k,hk,hy⟩:=J;obtain⟨s,ac,ab,ae⟩:=Xh (by omega) hk hy;have C2:=T7 w1 G cB gc ls _ l k s L.out Z.out (by omega) (by omega) hk hy ac;rw[Mc]at C2;have C2:=hid C2;have C3:=Sy w1 lo g bs at_ l (by omega) N.out;rw[Ab (by omega),Ab (by omega)]at C3;have C3:=hid C3;have HG:=hid (RG L.out ab (WZ ak ae));clear hk hy ac ab ae E;go_wp2_with fail;refine C2.out.mono ?_;rintro e w2 ⟨rfl,rfl⟩;go_wp2_with fail;refine C3.out.mono ?_;rintro e w3 ⟨rfl,af,al⟩;go_wp2_with fail;go_ret2;rw[HG.out];exact⟨rfl,af,Y.out.trans al⟩
   ·have hy:X / 2 ^ (15-l)<fst ls l∨fst ls l+cn ls l<=X / 2 ^ (15-l):=by
     by_cases h:X / 2 ^ (15-l)<fst ls l
     ·exact .inl h
     ·refine .inr (Nat.le_of_not_lt fun h2=>J ⟨X / 2 ^ (15-l)-fst ls l,by omega,by omega⟩)
    have aj:=GQ X (2 ^ (15-l));have C2:=TP w1 G cB gc ls (X / 2 ^ (15-l)) l L.out Z.out (by omega) (by omega) (by omega) hy;rw[Mc]at C2;have C2:=hid C2;have y:∀s,hit ls X l s=false:=(by obtain⟨j,rfl⟩:∃j,l=j+1:=⟨l-1,by omega⟩;exact U3 E.out hy);have ai:=hid y;clear J hy aj E y;go_wp2_with fail;refine C2.out.mono ?_;rintro e w2 ⟨rfl,rfl⟩;go_wp2_with fail;go_roundw
    case measure=>go_light;simp[intOf];omega
    case rel=>go_light;exact⟨l+1,by omega,by omega,by go_num,ai.out,trivial⟩
  ·have Q:l-1=th:=(by omega);have y:=E.out;rw[Q]at y;have hG:=O4 y;obtain⟨_,U,_⟩:=Hg L.out;rw[<-Ud U]at hG;have HG:=hid hG;by_cases ah:th<15
   ·have C2:=YT w1 G cB gc ls (X / 2 ^ (15-th)) th L.out Z.out ah (VR X th hX ag);rw[Mc]at C2;have C2:=hid C2;have x1:(th:Int)<15:=(by omega);cases z:G6 ls (X / 2 ^ (15-th)) th
    ·rw[z]at C2 HG;clear Q E y hG U z;go_wp2_with fail;refine C2.out.mono ?_;rintro e w2 ⟨rfl,q2,rfl⟩;go_wp2_with fail;go_ret2;rw[HG.out];exact⟨rfl,N.out.drewN q2,Y.out.drewN q2⟩
    ·rw[z]at C2 HG;clear Q E y hG U z;go_wp2_with fail;refine C2.out.mono ?_;rintro e w2 ⟨rfl,q2,rfl⟩;go_wp2_with fail;go_ret2;rw[HG.out];exact⟨rfl,N.out.drewN q2,Y.out.drewN q2⟩
   ·have z:G6 ls (X / 2 ^ (15-th)) th=false:=Mv fun k h1 h2=>by omega
    rw[z]at HG;clear Q E y hG U z;go_wp2_with fail;go_ret2;rw[HG.out];exact⟨rfl,N.out,Y.out⟩
end Huff
namespace Huff
open Go.RowKit Mem Canon Own
def RRd(w:World)(g hi:Nat)(bs:List Bool)(at_:Nat):Prop:=
 ∃ (A:Option Addr) (c:Nat),Blk w g 241 #[.slice A bs.length c, .int .i64 at_]/\RowIn w (g+1) hi A bs.length 1 (iZ .u8 (b01 bs))/\at_<=bs.length/\bs.length<=800000
theorem RRd.keep{w w':World}{g hi at_:Nat}{bs:List Bool}(h:RRd w g hi bs at_)(hk:∀b,g<=b->(b<hi∨b=g)->w'.heap[b]? =w.heap[b]?):RRd w' g hi bs at_:=by obtain⟨A,c,h1,h2,h3⟩:=h;exact⟨A,c,(hk g (Aj _) (.inr rfl)).trans h1,h2.keep (fun p ha hb=>World.cell?_of_block (hk p.block (by omega) (.inl hb))),h3⟩
theorem RRd.drewN{w:World}{g hi at_:Nat}{bs:List Bool}(h:RRd w g hi bs at_)(q:Nat):RRd (w.drewN q) g hi bs at_:=h
theorem RRd.moved{w:World}{g hi at_ k:Nat}{bs:List Bool}(h:RRd w g hi bs at_)(hk:at_+k<=bs.length):RRd (w.setCell ⟨g,1,none⟩ (.int .i64 ((at_:Int)+(k:Int)))) g hi bs (at_+k):=by obtain⟨A,c,h1,h2,h3,h4⟩:=h;refine⟨A,c,?_,h2.keep (fun p ha _=>World.cell?_of_block (AK w _ _ _ (show p.block≠g by omega))),hk,h4⟩;have h:=h1.set 1 (.int .i64 ((at_:Int)+(k:Int)));simpa using h
theorem RRd.cells{w:World}{g hi at_:Nat}{bs:List Bool}(h:RRd w g hi bs at_):∃A c,w.cell? ⟨g,0,none⟩=some (.slice A bs.length c)/\w.cell? ⟨g,1,none⟩=some (.int .i64 at_)/\w.frozen? ⟨g,1,none⟩=false/\RowIn w (g+1) hi A bs.length 1 (iZ .u8 (b01 bs))/\at_<=bs.length/\bs.length<=800000:=by obtain⟨A,c,h1,h2,h3,h4⟩:=h;exact⟨A,c,h1.cell 0,h1.cell 1,h1.frozen 1,h2,h3,h4⟩
theorem rleft_any(w:World)(g hi:Nat)(bs:List Bool)(at_:Nat)(hR:RRd w g hi bs at_):
 Calls Tryz.prog 214 #[.pointer (some ⟨g,0,none⟩)] w fun e w'=>e= .returned (.int .i64 ((bs.length-at_:Nat):Int))/\∃q,w'=w.drewN q:=by
 obtain⟨A,c,c0,c1,_,_,h3,h4⟩:=hR.cells;generalize bs.length=z at *;have s1:IntKind.i64.wrap ((z:Int)-(at_:Int))=((z-at_:Nat):Int):=by rw[Ak _ (by omega)];omega
 clear hR;go_enter Tryz.func214,Tryz.ntmps214;go_wp2_with fail;go_quiet (fail);go_wp2_with fail;go_ret;exact⟨rfl,_,rfl⟩
theorem QX(w:World)(g hi:Nat)(bs:List Bool)(at_ m:Nat)(hm:m<=64)(hR:RRd w g hi bs at_):
 Calls Tryz.prog 215 #[.pointer (some ⟨g,0,none⟩), .int .i64 (m:Nat)] w fun e w'=>e= .returned (.tuple #[.int .u64 (sZ bs at_ m:Nat), .int .i64 ((min m (bs.length-at_):Nat):Int)])/\∃q,w'=w.drewN q:=by
 have HR:=hid hR;clear hR;go_enter Tryz.func215,Tryz.ntmps215;go_wp2_with fail;go_loopw [6,7,8] (fun u v i wr=>∃k x th:Nat,k<=m/\i= .int .i64 k/\u= .int .u64 x/\v= .int .i64 th/\Hid (x=sZ bs at_ k)/\Hid (th=min k (bs.length-at_))/\Hid (∃q,wr=w.drewN q)) (fun _ _ i _=>m-(intOf i).toNat)
 case atStart=>exact⟨0,0,0,by omega,rfl,rfl,rfl,rfl,by show 0=_;omega,⟨0,rfl⟩⟩
 case round=>
  obtain⟨k,x,th,hk,rfl,rfl,rfl,hx,E,J⟩:=hrel;by_cases af:k<m
  ·have N:RRd wr g hi bs at_:=(by obtain⟨q,hq⟩:=J.out;rw[hq];exact HR.out);have C:=hid (rleft_any wr g hi bs at_ N);have Z:=hid N;have M:=DZ bs at_ k;rw[<-hx.out]at M;have ab:x<9223372036854775808:=De M (by have:2 ^ k<=2 ^ 63:=Bu (by omega) (by omega);omega);have h:sZ bs at_ (k+1)=2*x+bit bs (at_+k):=(by rw[sZ,<-hx.out]);clear N M hx;by_cases aa:at_+k<bs.length
   ·have x1:(k:Int)<((bs.length-at_:Nat):Int):=(by omega);have Y:=Ev bs (at_+k);have j:th+1=min (k+1) (bs.length-at_):=(by have:=E.out;omega);have ae:th<=64:=(by have:=E.out;omega);have HT:=hid j;have HS:=hid h;clear E j h;go_wp2_with fail;refine C.out.mono ?_;rintro e w2 ⟨rfl,q2,G⟩;have U:RRd w2 g hi bs at_:=(by rw[G];exact Z.out.drewN q2);have HD:Hid (∃q,w2=w.drewN q):=(by obtain⟨q,rfl⟩:=J.out;exact⟨_,by rw[G,CL]⟩);obtain⟨A,c,c0,c1,_,L,h3,h4⟩:=U.cells;obtain⟨b,ac,y,rfl,_,hy,d0⟩:=Ci L.row (Js bs) aa;have Q:bit bs (at_+k)=y:=(by rw[<-Kb,Ar,hy];rfl);rw[Q]at Y HS;have x2:(0:Int)<=(at_:Int)+(k:Int):=(by omega);have x3:(at_:Int)+(k:Int)<((bs.length:Nat):Int):=(by omega);generalize hz:bs.length=z at *;have HZ:=hid hz;clear hz G U L hy Q C;go_wp2_with fail;go_quiet (fail);go_wp2_with fail;go_roundw
    case measure=>go_light;simp[intOf];omega
    case rel=>
     go_light;refine⟨k+1,2*x+y,th+1,by omega,by go_num,by go_num,by go_num,HS.out.symm,?_,?_⟩
     ·rw[HZ.out];exact HT.out
     ·obtain⟨q,rfl⟩:=HD.out;exact⟨_,CL _ _ _⟩
   ·have x1:¬(k:Int)<((bs.length-at_:Nat):Int):=(by omega);rw[O8 (by omega),CW]at h;have j:th=min (k+1) (bs.length-at_):=(by have:=E.out;omega);have HT:=hid j;have HS:=hid h;clear E j h;go_wp2_with fail;refine C.out.mono ?_;rintro e w2 ⟨rfl,q2,G⟩;have HD:Hid (∃q,w2=w.drewN q):=(by obtain⟨q,rfl⟩:=J.out;exact⟨_,by rw[G,CL]⟩);clear G C;go_wp2_with fail;go_roundw
    case measure=>go_light;simp[intOf];omega
    case rel=>go_light;exact⟨k+1,2*x,th,by omega,by go_num,by go_num,rfl,HS.out.symm,HT.out,HD.out⟩
  ·obtain rfl:k=m:=by omega
   go_wp2_with fail;go_ret2;exact⟨by rw[<-hx.out,<-E.out];rfl,J.out⟩
end Huff
namespace Huff
open Go.RowKit Mem Canon Own
def FK(bs:List Bool)(at_ m:Nat):Nat:=if at_+m<=bs.length then sZ bs at_ m else 0
def FJ(bs:List Bool)(at_ m:Nat):Int:=if at_+m<=bs.length then 0 else 1
def FH(bs:List Bool)(at_ m:Nat):Nat:=if at_+m<=bs.length then at_+m else at_
theorem IW(w:World)(lo g:Nat)(bs:List Bool)(at_ m:Nat)(hm:m<=64)(hR:Rd w lo g bs at_):
 Calls Tryz.prog 245 #[.pointer (some ⟨g,0,none⟩), .int .i64 (m:Nat)] w fun e w'=>e= .returned (.tuple #[.int .u64 (FK bs at_ m:Nat), .int .i64 (FJ bs at_ m)])/\Rd w' lo g bs (FH bs at_ m)/\Kept (fun x=>x≠g) w w':=by
 have C:=hid (left_any w lo g bs at_ hR);have HR:=hid hR;have J:at_<=bs.length/\bs.length<=800000:=by obtain⟨A,n,c,ls,h1,h2,h3,h4,h5,h6,h7⟩:=hR;rw[h5,CX,h3];omega
 obtain⟨M,L⟩:=J;have c2:=hR.cellAt;have f2:w.frozen? ⟨g,2,none⟩=false:=by obtain⟨A,n,c,ls,h1,_⟩:=hR;exact h1.frozen 2
 unfold FK FJ FH;by_cases i:at_+m<=bs.length
 ·rw[Ab i,Ab i,Ab i];have C2:=hid (Nf w lo g bs at_ m hm hR);have x1:(m:Int)<=((bs.length-at_:Nat):Int):=by omega
  have z:=hid i;generalize sZ bs at_ m=y at *;clear hR i;go_enter Tryz.func245,Tryz.ntmps245;go_wp2_with fail;refine C.out.mono ?_;rintro e w1 ⟨rfl,q,hq⟩;have j:Rd w1 lo g bs at_:=by rw[hq];exact HR.out.drewN q
  have d2:=j.cellAt;have g2:w1.frozen? ⟨g,2,none⟩=false:=by rw[hq];exact f2
  have C4:Hid (∀p,Calls Tryz.prog 267 #[.pointer (some ⟨g,0,none⟩), .int .i64 (at_:Nat), .int .i64 (m:Nat)] (w1.drewN p) fun e w'=>e= .returned (.int .u64 (y:Nat))/\w'=w1.drewN p):=by intro p;have h:=C2.out (q+p);rw[hq,CL];exact h
  have G:=hid j;have E:Hid (Kept (fun x=>x≠g) w w1):=by show Kept _ w w1;rw[hq];exact(Kept.refl _ w).drewN q
  clear hq j C C2 c2 f2;go_wp2_with fail;go_quiet (first|(go_at_call 267;exact B0 (C4.out _)));go_wp2_with fail;go_ret2;exact⟨rfl,(G.out.drewN _).moved z.out,Kept.set (p:=⟨g,2,none⟩) (E.out.drewN _) (fun h=>h rfl) _⟩
 ·rw[Aa i,Aa i,Aa i];have x1:¬(m:Int)<=((bs.length-at_:Nat):Int):=by omega
  clear hR;go_enter Tryz.func245,Tryz.ntmps245;go_wp2_with fail;refine C.out.mono ?_;rintro e w1 ⟨rfl,q,rfl⟩;go_wp2_with fail;go_ret2;exact⟨rfl,HR.out.drewN q,(Kept.refl _ w).drewN q⟩
theorem JO(w:World)(g hi:Nat)(bs:List Bool)(at_ m:Nat)(hm:m<=64)(hR:RRd w g hi bs at_):
 Calls Tryz.prog 177 #[.pointer (some ⟨g,0,none⟩), .int .i64 (m:Nat)] w fun e w'=>e= .returned (.tuple #[.int .u64 (FK bs at_ m:Nat), .int .i64 (FJ bs at_ m)])/\RRd w' g hi bs (FH bs at_ m)/\Kept (fun x=>x≠g) w w':=by
 have C:=hid (rleft_any w g hi bs at_ hR);have C2:=hid (fun q=>QX (w.drewN q) g hi bs at_ m hm (hR.drewN q));have HR:=hid hR;obtain⟨A,c,_,c1,f1,_,E,z⟩:=hR.cells;unfold FK FJ FH;by_cases i:at_+m<=bs.length
 ·rw[Ab i,Ab i,Ab i];have x1:(m:Int)<=((bs.length-at_:Nat):Int):=by omega
  have j:=hid i;generalize sZ bs at_ m=y at *;clear hR i;go_enter Tryz.func177,Tryz.ntmps177;go_wp2_with fail;refine C.out.mono ?_;rintro e w1 ⟨rfl,q,rfl⟩;go_wp2_with fail;refine(C2.out q).mono ?_;rintro e w2 ⟨rfl,q2,rfl⟩;go_wp2_with fail;go_ret2;exact⟨rfl,(HR.out.drewN (q+q2)).moved j.out,Kept.set (p:=⟨g,1,none⟩) ((Kept.refl (fun x=>x≠g) w).drewN (q+q2)) (fun h=>h rfl) _⟩
 ·rw[Aa i,Aa i,Aa i];have x1:¬(m:Int)<=((bs.length-at_:Nat):Int):=by omega
  clear hR;go_enter Tryz.func177,Tryz.ntmps177;go_wp2_with fail;refine C.out.mono ?_;rintro e w1 ⟨rfl,q,rfl⟩;go_wp2_with fail;go_ret2;exact⟨rfl,HR.out.drewN q,(Kept.refl _ w).drewN q⟩
end Huff
namespace Huff
open Go.RowKit Mem Canon Own
def unC(bs:List Bool):Nat->Nat->Nat
 |_,0=>0
 |i,f+1=>if bit bs i=1 then 0 else unC bs (i+1) f+1
def unD(bs:List Bool)(at_:Nat):Nat:=unC bs at_ (bs.length-at_)
def unV(bs:List Bool)(at_:Nat):Nat:=if at_+unD bs at_<bs.length then unD bs at_ else 0
def unE(bs:List Bool)(at_:Nat):Int:=if at_+unD bs at_<bs.length then 0 else 1
def unA(bs:List Bool)(at_:Nat):Nat:=if at_+unD bs at_<bs.length then at_+unD bs at_+1 else at_
theorem Oj{bs:List Bool}{at_ i:Nat}(h:unD bs at_=i-at_+unC bs i (bs.length-i))(h1:at_<=i)(h2:i<bs.length)(hb:bit bs i=1):unV bs at_=i-at_/\unE bs at_=0/\unA bs at_=i+1:=by
 have e:bs.length-i=(bs.length-(i+1))+1:=by omega
 rw[e,unC,Ab hb,CW]at h;unfold unV unE unA;rw[h,Ab (by omega),Ab (by omega),Ab (by omega)];exact⟨rfl,rfl,by omega⟩
theorem Rb{bs:List Bool}{at_ i:Nat}(h:unD bs at_=i-at_+unC bs i (bs.length-i))(h1:at_<=i)(h2:i<bs.length)(hb:bit bs i≠1):unD bs at_=i+1-at_+unC bs (i+1) (bs.length-(i+1)):=by
 have e:bs.length-i=(bs.length-(i+1))+1:=by omega
 rw[e,unC,Aa hb]at h;omega
theorem N5{bs:List Bool}{at_ i:Nat}(h:unD bs at_=i-at_+unC bs i (bs.length-i))(h1:at_<=i)(h2:i=bs.length):unV bs at_=0/\unE bs at_=1/\unA bs at_=at_:=by rw[h2,EL,unC]at h;unfold unV unE unA;rw[Aa (by omega),Aa (by omega),Aa (by omega)];exact⟨rfl,rfl,rfl⟩
theorem YM(w:World)(lo g:Nat)(bs:List Bool)(at_:Nat)(hR:Rd w lo g bs at_):
 Calls Tryz.prog 243 #[.pointer (some ⟨g,0,none⟩)] w fun e w'=>e= .returned (.tuple #[.int .i64 (unV bs at_:Nat), .int .i64 (unE bs at_)])/\Rd w' lo g bs (unA bs at_)/\Kept (fun x=>x≠g) w w':=by
 have HR:=hid hR;obtain⟨A,n,c,ls,h1,h2,h3,h4,h5,h6,h7⟩:=hR;have hl:bs.length=8*n:=by rw[h5,CX,h3]
 have hz:bs.length<=800000:=by omega
 have J:at_<=bs.length:=by omega
 have c0:=h1.cell 0;have c1:=h1.cell 1;have c2:=h1.cell 2;have f2:=h1.frozen 2;rw[<-hl]at c1;simp only[List.getElem?_toArray,List.getElem?_cons_zero,List.getElem?_cons_succ]at c0 c1 c2;have DB:=hid (fun i hi=>RP w g g A n c i ls h3 h7 h4 (by omega:i<8*n) c0 h2.row);rw[<-h5,<-hl]at DB;have H1:Hid (unD bs at_=at_-at_+unC bs at_ (bs.length-at_)):=by show _=_;unfold unD;omega
 clear h1 h2 h3 h4 h5 h6 h7 hl c0;obtain⟨z,j⟩:∃z,z=bs.length:=⟨_,rfl⟩;rw[<-j]at c1 hz J DB;have HZ:=hid j;clear j;go_enter Tryz.func243,Tryz.ntmps243;go_wp2_with fail;go_loopw [4] (fun iv wr=>∃i:Nat,at_<=i/\i<=z/\iv= .int .i64 i/\Hid (wr=w)/\Hid (unD bs at_=i-at_+unC bs i (bs.length-i))) (fun iv _=>z-(intOf iv).toNat)
 case atStart=>exact⟨at_,Aj _,J,rfl,rfl,H1.out⟩
 case round=>
  obtain⟨i,E,Q,rfl,hw,HU⟩:=hrel;have hw:=hw.out;subst hw;clear H1;by_cases y:i<z
  ·have g1:decide ((i:Int)<(z:Int))=true:=(by simp;omega);have N:decide (i<z)=true:=(by simp;omega);have D:=hid (DB.out i y);by_cases hb:bit bs i=1
   ·have UU:=hid (Oj HU.out E (by rw[<-HZ.out];exact y) hb);have U:IntKind.i64.wrap ((i:Int)-(at_:Int))=((i-at_:Nat):Int):=(by rw[Ak _ (by omega)];omega);have M:Hid (Rd (wr.setCell ⟨g,2,none⟩ (.int .i64 ((i:Int)+1))) lo g bs (i+1)):=(by have h:=HR.out.moved (k:=i+1-at_) (by rw[<-HZ.out];omega);rw[show((at_:Int)+((i+1-at_:Nat):Int))=(i:Int)+1 by omega,show at_+(i+1-at_)=i+1 by omega]at h;exact h);rw[hb]at D;clear hb HU DB;go_wp2_with fail;refine D.out.mono ?_;rintro e w1 ⟨rfl,rfl⟩;go_wp2_with fail;go_ret2;rw[UU.out.1,UU.out.2.1,UU.out.2.2];exact⟨rfl,M.out,(Kept.refl _ _).set (fun h=>h rfl) _⟩
   ·have G:bit bs i=0:=(by have:=Ev bs i;omega);have L:=hid (Rb HU.out E (by rw[<-HZ.out];exact y) hb);rw[G]at D;clear hb G HU;go_wp2_with fail;refine D.out.mono ?_;rintro e w1 ⟨rfl,rfl⟩;go_wp2_with fail;go_roundw
    case measure=>go_light;simp[intOf];omega
    case rel=>go_light;exact⟨i+1,by omega,by omega,by first|rfl|go_num,trivial,L.out⟩
  ·obtain rfl:i=z:=by omega
   have g1:decide ((i:Int)<(i:Int))=false:=(by simp);have UU:=hid (N5 HU.out E HZ.out);clear HU DB;go_wp2_with fail;go_ret2;rw[UU.out.1,UU.out.2.1,UU.out.2.2];exact⟨rfl,HR.out,Kept.refl _ _⟩
theorem Ta(w:World)(g hi:Nat)(bs:List Bool)(at_:Nat)(hR:RRd w g hi bs at_):
 Calls Tryz.prog 178 #[.pointer (some ⟨g,0,none⟩)] w fun e w'=>e= .returned (.tuple #[.int .i64 (unV bs at_:Nat), .int .i64 (unE bs at_)])/\RRd w' g hi bs (unA bs at_)/\Kept (fun x=>x≠g) w w':=by
 have HR:=hid hR;obtain⟨A,c,c0,c1,f1,G,Y,hz⟩:=hR.cells;have U:=hid G;have H1:Hid (unD bs at_=at_-at_+unC bs at_ (bs.length-at_)):=by show _=_;unfold unD;omega
 clear hR G;obtain⟨z,L⟩:∃z,z=bs.length:=⟨_,rfl⟩;rw[<-L]at c0 hz Y;have HZ:=hid L;clear L;go_enter Tryz.func178,Tryz.ntmps178;go_wp2_with fail;go_loopw [4] (fun iv wr=>∃i:Nat,at_+i<=z/\iv= .int .i64 i/\Hid (∃q,wr=w.drewN q)/\Hid (unD bs at_=at_+i-at_+unC bs (at_+i) (bs.length-(at_+i)))) (fun iv _=>z-(intOf iv).toNat)
 case atStart=>exact⟨0,Y,rfl,⟨0,rfl⟩,H1.out⟩
 case round=>
  obtain⟨i,ae,rfl,hw,HU⟩:=hrel;have d0:wr.cell? ⟨g,0,none⟩=some (.slice A z c):=by obtain⟨q,hq⟩:=hw.out;rw[hq];exact c0
  have d1:wr.cell? ⟨g,1,none⟩=some (.int .i64 at_):=by obtain⟨q,hq⟩:=hw.out;rw[hq];exact c1
  have k1:wr.frozen? ⟨g,1,none⟩=false:=by obtain⟨q,hq⟩:=hw.out;rw[hq];exact f1
  have Q:Hid (RRd wr g hi bs at_):=by obtain⟨q,hq⟩:=hw.out;rw[hq];exact HR.out.drewN q
  have Z:Hid (Kept (fun x=>x≠g) w wr):=by obtain⟨q,hq⟩:=hw.out;rw[hq];exact(Kept.refl _ _).drewN q
  have J:Hid (RowIn wr (g+1) hi A bs.length 1 (iZ .u8 (b01 bs))):=by obtain⟨q,hq⟩:=hw.out;rw[hq];exact U.out
  have HD:∀q2,Hid (∃q,wr.drewN q2=w.drewN q):=fun q2=>by obtain⟨q,hq⟩:=hw.out;exact⟨q+q2,by rw[hq,CL]⟩
  have s1:IntKind.i64.wrap ((at_:Int)+(i:Int))=((at_+i:Nat):Int):=by rw[Ak _ (by omega)];omega
  clear H1 hw c0 c1 f1;by_cases E:at_+i<z
  ·have g1:decide (((at_+i:Nat):Int)<(z:Int))=true:=(by simp;omega);have M:decide (at_+i<z)=true:=(by simp;omega);obtain⟨b,af,y,rfl,_,hy,e0⟩:=Ci J.out.row (Js bs) (by rw[<-HZ.out];exact E);have j:bit bs (at_+i)=y:=(by rw[<-Kb,Ar,hy];rfl);obtain⟨p,hp⟩:∃p,p=at_+i:=⟨_,rfl⟩;rw[<-hp]at s1 g1 M e0 j HU E;have x0:(0:Int)<=(p:Int):=(by omega);have x1:(p:Int)<(z:Int):=(by omega);clear hy J;by_cases hb:y=1
   ·subst hb;have UU:=Oj HU.out (by omega) (by rw[<-HZ.out];exact E) j;rw[show p-at_=i by omega]at UU;have UU:=hid UU;have ac:Hid (RRd (wr.setCell ⟨g,1,none⟩ (.int .i64 ((p:Int)+1))) g hi bs (p+1)):=(by have h:=Q.out.moved (k:=p+1-at_) (by rw[<-HZ.out];omega);rw[show((at_:Int)+((p+1-at_:Nat):Int))=(p:Int)+1 by omega,show at_+(p+1-at_)=p+1 by omega]at h;exact h);clear j HU hp;go_wp2_with fail;go_quiet (fail);go_wp2_with fail;go_quiet (fail);go_wp2_with fail;go_ret2;rw[UU.out.1,UU.out.2.1,UU.out.2.2];exact⟨rfl,ac.out.drewN _,Z.out.drewN _ |>.set (fun h=>h rfl) _⟩
   ·have aa:y=0:=(by have:=Ev bs p;omega);have N:=hid (Rb HU.out (by omega) (by rw[<-HZ.out];exact E) (by rw[j];exact hb));subst aa;rw[show p+1=at_+(i+1) by omega]at N;have ab:at_+(i+1)<=z:=(by omega);clear j HU hp hb;go_wp2_with fail;go_quiet (fail);go_wp2_with fail;go_quiet (fail);go_wp2_with fail;go_roundw
    case measure=>go_light;simp[intOf];omega
    case rel=>go_light;exact⟨i+1,ab,by first|rfl|go_num,(HD _).out,N.out⟩
  ·have g1:decide (((at_+i:Nat):Int)<(z:Int))=false:=(by simp;omega);have M:decide (at_+i<z)=false:=(by simp;omega);have UU:=hid (N5 HU.out (by omega) (by rw[<-HZ.out];omega));obtain⟨p,hp⟩:∃p,p=at_+i:=⟨_,rfl⟩;rw[<-hp]at s1 g1 M;clear HU hp J;go_wp2_with fail;go_quiet (fail);go_wp2_with fail;go_ret2;rw[UU.out.1,UU.out.2.1,UU.out.2.2];exact⟨rfl,Q.out.drewN _,Z.out.drewN _⟩
end Huff
end Go.Proofs.YtbgoibedicbkjaaGreatDoor
