/- The cells of a coder -/
import Derived.Test.YtfgdoknipbpfhaaGreatDoorZBodyOpened15
import Derived.Deep.RegionLaw
import Derived.Deep.AppendLies
namespace Go.Proofs.YtfgdoknipbpfhaaGreatDoor
open Go.Proofs.Tryz
open Go.Lib (hid)
set_option maxHeartbeats 1000000
set_option maxRecDepth 100000
variable{ls:List Nat}{B base c g gc i k l lo x y:Nat}{vc vl:Value}{w w':World}{t:TypeId}
namespace Huff
open Go.RowKit Mem Canon Own
def ER(ls:List Nat)(l:Nat):List Nat:=if l=0 then []else symsOf ls l
theorem cY(ls:List Nat)(l:Nat):(ER ls l).length=cn ls l:=by
 unfold ER cn;split
 ·rfl
 ·exact OB l ls
theorem Kl(hx:ls[k]? =some x)(h0:x≠0)(l:Nat):cn (ls.take (k+1)) l=cn (ls.take k) l+if x=l then 1 else 0:=by
 rw[Is hx];unfold cn;split
 ·rename_i h;subst h;rw[Ab h0]
 ·rw[Hg]
theorem Oe(hx:ls[k]? =some 0)(l:Nat):cn (ls.take (k+1)) l=cn (ls.take k) l:=by
 rw[Is hx];unfold cn;split
 ·rfl
 ·rw[Hg,Ab mz];rfl
theorem mU(hx:ls[k]? =some x)(h0:x≠0)(l:Nat):ER (ls.take (k+1)) l=ER (ls.take k) l++if x=l then [k]else []:=by
 have hk:(ls.take k).length=k:=by have:=(CE.1 hx).1;rw[Bd];omega
 rw[Is hx];unfold ER;split
 ·rename_i h;subst h;rw[Ab h0];rfl
 ·rw[Ml,hk]
theorem lW(hx:ls[k]? =some 0)(l:Nat):ER (ls.take (k+1)) l=ER (ls.take k) l:=by
 rw[Is hx];unfold ER;split
 ·rfl
 ·rw[Ml,Ab mz,Ce]
def EX(ls:List Nat)(k l:Nat):Nat:=if cn (ls.take k) l=0 then 0 else fst ls l
def upd(sv:Nat->Value)(l:Nat)(v:Value):Nat->Value:=fun m=>if m=l then v else sv m
structure Cells (ls:List Nat) (k:Nat) (vl vc:Value) (sv:Nat->Value) (cs:Array Value):Prop where
 size:cs.size=50
 lens:cs[0]? =some vl
 codes:cs[1]? =some vc
 first:∀l,l<16->cs[2+l]? =some (.int .i64 (EX ls k l:Nat))
 many:∀l,l<16->cs[18+l]? =some (.int .i64 (cn (ls.take k) l:Nat))
 syms:∀l,l<16->cs[34+l]? =some (sv l)
theorem Cells.start(ls:List Nat)(vl vc:Value):Cells ls 0 vl vc (fun _=> .slice none 0 0)
 #[vl,vc, .int .i64 0, .int .i64 0, .int .i64 0, .int .i64 0, .int .i64 0, .int .i64 0, .int .i64 0, .int .i64 0, .int .i64 0, .int .i64 0, .int .i64 0, .int .i64 0, .int .i64 0, .int .i64 0, .int .i64 0, .int .i64 0,
  .int .i64 0, .int .i64 0, .int .i64 0, .int .i64 0, .int .i64 0, .int .i64 0, .int .i64 0, .int .i64 0, .int .i64 0, .int .i64 0, .int .i64 0, .int .i64 0, .int .i64 0, .int .i64 0, .int .i64 0, .int .i64 0,
  .slice none 0 0, .slice none 0 0, .slice none 0 0, .slice none 0 0, .slice none 0 0, .slice none 0 0, .slice none 0 0, .slice none 0 0, .slice none 0 0, .slice none 0 0, .slice none 0 0, .slice none 0 0, .slice none 0 0, .slice none 0 0, .slice none 0 0, .slice none 0 0]:=by
 have hc:∀l,cn (ls.take 0) l=0:=by intro l;simp[cn,Kq]
 have hf:∀l,EX ls 0 l=0:=by intro l;unfold EX;rw[Ae (hc l)]
 refine⟨rfl,rfl,rfl,fun l hl=> ?_,fun l hl=> ?_,fun l hl=> ?_⟩
 ·rw[hf];have:l=0∨l=1∨l=2∨l=3∨l=4∨l=5∨l=6∨l=7∨l=8∨l=9∨l=10∨l=11∨l=12∨l=13∨l=14∨l=15:=by omega
  rcases this with rfl|rfl|rfl|rfl|rfl|rfl|rfl|rfl|rfl|rfl|rfl|rfl|rfl|rfl|rfl|rfl<;>rfl
 ·rw[hc];have:l=0∨l=1∨l=2∨l=3∨l=4∨l=5∨l=6∨l=7∨l=8∨l=9∨l=10∨l=11∨l=12∨l=13∨l=14∨l=15:=by omega
  rcases this with rfl|rfl|rfl|rfl|rfl|rfl|rfl|rfl|rfl|rfl|rfl|rfl|rfl|rfl|rfl|rfl<;>rfl
 ·have:l=0∨l=1∨l=2∨l=3∨l=4∨l=5∨l=6∨l=7∨l=8∨l=9∨l=10∨l=11∨l=12∨l=13∨l=14∨l=15:=by omega
  rcases this with rfl|rfl|rfl|rfl|rfl|rfl|rfl|rfl|rfl|rfl|rfl|rfl|rfl|rfl|rfl|rfl<;>rfl
theorem Cells.skip{sv:Nat->Value}{cs:Array Value}(h:Cells ls k vl vc sv cs)(hx:ls[k]? =some 0):Cells ls (k+1) vl vc sv cs:=by
 refine⟨h.size,h.lens,h.codes,fun l hl=> ?_,fun l hl=> ?_,h.syms⟩
 ·rw[h.first l hl];unfold EX;rw[Oe hx]
 ·rw[h.many l hl,Oe hx]
theorem Cells.next{v:Value}{sv:Nat->Value}{cs:Array Value}(h:Cells ls k vl vc sv cs)(hx:ls[k]? =some x)(h0:x≠0)(j:x<=15)(hc:cn (ls.take k) x=c)(i:c≠0):
 Cells ls (k+1) vl vc (upd sv x v) ((cs.setIfInBounds (18+x) (.int .i64 ((c+1:Nat):Int))).setIfInBounds (34+x) v):=by
 have hs:=h.size;refine⟨by simpa using hs,?_,?_,fun l hl=> ?_,fun l hl=> ?_,fun l hl=> ?_⟩
 ·rw[Array.getElem?_setIfInBounds_ne mz,Array.getElem?_setIfInBounds_ne mz,h.lens]
 ·rw[Array.getElem?_setIfInBounds_ne mz,Array.getElem?_setIfInBounds_ne mz,h.codes]
 ·rw[Array.getElem?_setIfInBounds_ne mz,Array.getElem?_setIfInBounds_ne mz,h.first l hl];unfold EX;rw[Kl hx h0];by_cases e:x=l
  ·subst e;rw[Ab mz,Ab pI]
  ·rw[Ab e];rfl
 ·rw[Array.getElem?_setIfInBounds_ne mz,FE,Kl hx h0];by_cases e:x=l
  ·subst e;rw[Ae rfl,Ae mz,Ae rfl,hc]
  ·rw[Ab mz,Ab e,h.many l hl];rfl
 ·rw[FE];unfold upd;by_cases e:x=l
  ·subst e;rw[Ae rfl,Ae pQ,Ae rfl]
  ·rw[Ab mz,Ab (AZ e),Array.getElem?_setIfInBounds_ne mz,h.syms l hl]
theorem Cells.fresh{v:Value}{sv:Nat->Value}{cs:Array Value}(h:Cells ls k vl vc sv cs)(hx:ls[k]? =some x)(h0:x≠0)(j:x<=15)(hc:cn (ls.take k) x=0):
 Cells ls (k+1) vl vc (upd sv x v) (((cs.setIfInBounds (2+x) (.int .i64 (code ls k:Nat))).setIfInBounds (18+x) (.int .i64 ((0+1:Nat):Int))).setIfInBounds (34+x) v):=by
 have hs:=h.size;have i:code ls k=fst ls x:=by rw[IK hx h0];unfold cn at hc;rw[Ab h0]at hc;omega
 refine⟨by simpa using hs,?_,?_,fun l hl=> ?_,fun l hl=> ?_,fun l hl=> ?_⟩
 ·rw[Array.getElem?_setIfInBounds_ne mz,Array.getElem?_setIfInBounds_ne mz,Array.getElem?_setIfInBounds_ne mz,h.lens]
 ·rw[Array.getElem?_setIfInBounds_ne mz,Array.getElem?_setIfInBounds_ne mz,Array.getElem?_setIfInBounds_ne mz,h.codes]
 ·rw[Array.getElem?_setIfInBounds_ne mz,Array.getElem?_setIfInBounds_ne mz,FE];unfold EX;rw[Kl hx h0];by_cases e:x=l
  ·subst e;rw[Ae rfl,Ae mz,Ab pI,i]
  ·rw[Ab mz,h.first l hl,Ab e];rfl
 ·rw[Array.getElem?_setIfInBounds_ne mz,FE,Kl hx h0];by_cases e:x=l
  ·subst e;rw[Ae rfl,Ae pQ,Ae rfl,hc]
  ·rw[Ab mz,Ab e,Array.getElem?_setIfInBounds_ne mz,h.many l hl];rfl
 ·rw[FE];unfold upd;by_cases e:x=l
  ·subst e;rw[Ae rfl,Ae pQ,Ae rfl]
  ·rw[Ab mz,Ab (AZ e),Array.getElem?_setIfInBounds_ne mz,Array.getElem?_setIfInBounds_ne mz,h.syms l hl]
structure Rows (w:World) (base:Nat) (ls:List Nat) (k:Nat) (sv:Nat->Value):Prop where
 own:∀l,l<16->w.ownsRow base 3 1 (sv l) (cn (ls.take k) l) (cZ .i64 (ER (ls.take k) l))
 apart:∀l m x,l<16->m<16->l≠m->(sv l).ownBlock=some x->(sv m).ownBlock≠some x
theorem Rows.start(w:World)(base:Nat)(ls:List Nat):Rows w base ls 0 (fun _=> .slice none 0 0):=by
 refine⟨fun l hl=> ?_,fun l m x _ _ _ h=>by cases h⟩;have h1:cn (ls.take 0) l=0:=by simp[cn,Kq]
 have h2:ER (ls.take 0) l= []:=by unfold ER;split<;>rfl
 rw[h1,h2];exact AK _ _ _ _
theorem Rows.kept{sv:Nat->Value}(h:Rows w base ls k sv)(hk:∀l x,l<16->(sv l).ownBlock=some x->w'.heap[x]? =w.heap[x]?):Rows w' base ls k sv:=
 ⟨fun l hl=>eZ (h.own l hl) (fun x hx=>hk l x hl hx),h.apart⟩
theorem Rows.alloc{sv:Nat->Value}(h:Rows w base ls k sv)(o:Obj):Rows (w.alloc o) base ls k sv:=⟨fun l hl=>(h.own l hl).alloc o,h.apart⟩
theorem Rows.drew{sv:Nat->Value}(h:Rows w base ls k sv):Rows w.drew base ls k sv:=⟨h.own,h.apart⟩
theorem Rows.set{sv:Nat->Value}{cs:Array Value}(h:Rows w base ls k sv)(hg:Blk w g t cs)(ht:3≠t)(i:Nat)(u:Value):Rows (w.setCell ⟨g,i,none⟩ u) base ls k sv:=
 h.kept fun l x hl hx=>AV w _ u x (fun e=>gZ (h.own l hl) hg ht (by rw[hx,e]))
theorem Rows.skip{sv:Nat->Value}(h:Rows w base ls k sv)(hx:ls[k]? =some 0):Rows w base ls (k+1) sv:=
 ⟨fun l hl=>by rw[Oe hx,lW hx];exact h.own l hl,h.apart⟩
theorem Rows.push{w3:World}{g3:Nat}{sv:Nat->Value}(h:Rows w base ls k sv)(hx:ls[k]? =some x)(h0:x≠0)(E:x<=15)(hc:cn (ls.take k) x=c)
 (z:w3.ownsRow base 3 1 (.slice (some ⟨g3,0,none⟩) (c+1) i) (c+1) (cZ .i64 (ER (ls.take k) x)++ [.int .i64 (k:Nat)]))(hg:w.grownBy w3 (sv x).ownBlock)(j:(sv x).ownBlock=some g3∨g3=w.heap.size):
 Rows w3 base ls (k+1) (upd sv x (.slice (some ⟨g3,0,none⟩) (c+1) i)):=by
 refine⟨fun l hl=> ?_,fun a b y ha hb hab hy=> ?_⟩
 ·rw[Kl hx h0,mU hx h0];unfold upd;by_cases e:l=x
  ·subst e;rw[Ae rfl,Ae rfl,Ae rfl,hc];simpa[cZ]using z
  ·rw[Ab e,Ab (AZ e),Ab (AZ e),Ce];refine(h.own l hl).kept hg ?_;cases hb:(sv l).ownBlock with
   |none=>exact .inl rfl
   |some y=>exact .inr (fun e2=>h.apart l x y hl mz e hb e2.symm)
 ·unfold upd at hy ⊢;by_cases e1:a=x
  ·subst e1;rw[Ae rfl]at hy;rw[Ab (AZ hab)];have hy:g3=y:=(by simpa[Value.ownBlock]using hy);subst hy;rcases j with h1|h1
   ·exact h.apart a b g3 ha hb hab h1
   ·intro h2;have:=(Am (h.own b hb) g3 h2).2;omega
  ·rw[Ab e1]at hy;by_cases e2:b=x
   ·subst e2;rw[Ae rfl];intro h2;have h2:g3=y:=(by simpa[Value.ownBlock]using h2);subst h2;rcases j with h1|h1
    ·exact h.apart a b g3 ha hb hab hy h1
    ·have:=(Am (h.own a ha) g3 hy).2;omega
   ·rw[Ab e2];exact h.apart a b y ha hb hab hy
end Huff
namespace Huff
open Go.RowKit Mem Canon Own
def RowIn(w:World)(lo B:Nat)(A:Option Addr)(n s:Nat)(f:Nat->Nat->Value):Prop:=
 0<n->∃b off,A=some ⟨b,off,none⟩/\(lo<=b/\b<B)/\∀i j,i<n->j<s->w.cell? ⟨b,off+(i*s+j),none⟩=some (f i j)
section
variable {w w':World} {lo lo' B B' n s:Nat} {A:Option Addr} {f g:Nat->Nat->Value}
theorem RowIn.row(h:RowIn w lo B A n s f):Row w B A n s f:=fun hn=>by obtain⟨b,i,e,hb,hc⟩:=h hn;exact⟨b,i,e,hb.2,hc⟩
theorem RowIn.keep(h:RowIn w lo B A n s f)(hk:∀p:Addr,lo<=p.block->p.block<B->w'.cell? p=w.cell? p):RowIn w' lo B A n s f:=fun hn=>by obtain⟨b,y,e,hb,hc⟩:=h hn;exact⟨b,y,e,hb,fun i j hi hj=>(hk _ hb.1 hb.2).trans (hc i j hi hj)⟩
theorem RowIn.mono(h:RowIn w lo B A n s f)(hl:lo'<=lo)(hB:B<=B'):RowIn w lo' B' A n s f:=fun hn=>by obtain⟨b,i,e,hb,hc⟩:=h hn;exact⟨b,i,e,⟨mz,mz⟩,hc⟩
theorem RowIn.of_own{e:TypeId}{v:Value}{xs:List Value}(h:w.ownsRow base e s v n xs)(hv:v= .slice A n c)(hf:∀i j,i<n->j<s->xs[i*s+j]? =some (f i j)):RowIn w base w A n s f:=fun hn=>by
 rcases h.2 with ⟨_,h0⟩|⟨g,G,cur,z,hb,hh,E,_,J,y⟩
 ·omega
 ·rw[hv]at z;injection z with e1 e2 e3;refine⟨g,0,e1,⟨hb,Blk.lt hh⟩,fun i j hi hj=> ?_⟩;rw[Ck,Blk.cell hh];have:=hf i j hi hj;rw[<-y,Gq]at this;split at this
  ·simpa using this
  ·cases this
theorem RowIn.of_blk{cs:Array Value}{b:Nat}(h:Blk w b t cs)(hl:lo<=b)(hB:b<B)(hf:∀i j,i<n->j<s->cs[i*s+j]? =some (f i j)):RowIn w lo B (some ⟨b,0,none⟩) n s f:=
 fun _=>⟨b,0,rfl,⟨hl,hB⟩,fun i j hi hj=>by rw[Ck,h.cell];exact hf i j hi hj⟩
end
theorem numL_get{k:IntKind}(h:i<ls.length):(cZ k ls)[i*1+0]? =some (jZ k ls i 0):=by simp[cZ,jZ,List.getD_eq_getElem?_getD,h]
structure Coder (w:World) (lo B g:Nat) (ls:List Nat):Prop where
 ge:lo<=g
 lt:g<B
 free:∀i,w.frozen? ⟨g,i,none⟩=false
 lens:∃A c,w.cell? ⟨g,0,none⟩=some (.slice A ls.length c)/\RowIn w lo B A ls.length 1 (jZ .u8 ls)
 codes:∃A c,w.cell? ⟨g,1,none⟩=some (.slice A ls.length c)/\RowIn w lo B A ls.length 1 (fun i _=> .int .u16 (GD ls i:Nat))
 first:∀l,l<16->w.cell? ⟨g,2+l,none⟩=some (.int .i64 (EX ls ls.length l:Nat))
 many:∀l,l<16->w.cell? ⟨g,18+l,none⟩=some (.int .i64 (cn ls l:Nat))
 syms:∀l,l<16->∃A c,w.cell? ⟨g,34+l,none⟩=some (.slice A (cn ls l) c)/\RowIn w lo B A (cn ls l) 1 (jZ .i64 (ER ls l))
theorem Coder.keep(h:Coder w lo B g ls)(hk:∀b,lo<=b->b<B->w'.heap[b]? =w.heap[b]?):Coder w' lo B g ls:=by
 have hg:=hk g h.ge h.lt;have hc:∀p:Addr,lo<=p.block->p.block<B->w'.cell? p=w.cell? p:=fun p h1 h2=>World.cell?_of_block (hk p.block h1 h2);have j:∀i,w'.cell? ⟨g,i,none⟩=w.cell? ⟨g,i,none⟩:=fun i=>World.cell?_of_block (a:=⟨g,i,none⟩) hg;refine⟨h.ge,h.lt,fun i=>(World.frozen?_of_block (a:=⟨g,i,none⟩) hg).trans (h.free i),?_,?_,fun l hl=>(j _).trans (h.first l hl),fun l hl=>(j _).trans (h.many l hl),fun l hl=> ?_⟩
 ·obtain⟨A,c,h1,h2⟩:=h.lens;exact⟨A,c,(j _).trans h1,h2.keep hc⟩
 ·obtain⟨A,c,h1,h2⟩:=h.codes;exact⟨A,c,(j _).trans h1,h2.keep hc⟩
 ·obtain⟨A,c,h1,h2⟩:=h.syms l hl;exact⟨A,c,(j _).trans h1,h2.keep hc⟩
theorem Coder.below(h:Coder w lo B g ls){C:Nat}(hb:Below C w w')(hC:B<=C):Coder w' lo B g ls:=
 h.keep fun b _ h2=>hb.block b mz
theorem Coder.mono{lo' B':Nat}(h:Coder w lo B g ls)(hl:lo'<=lo)(hB:B<=B'):Coder w lo' B' g ls:=by
 refine⟨by have:=h.ge;omega,by have:=h.lt;omega,h.free,?_,?_,h.first,h.many,fun l hx=> ?_⟩
 ·obtain⟨A,c,h1,h2⟩:=h.lens;exact⟨A,c,h1,h2.mono hl hB⟩
 ·obtain⟨A,c,h1,h2⟩:=h.codes;exact⟨A,c,h1,h2.mono hl hB⟩
 ·obtain⟨A,c,h1,h2⟩:=h.syms l hx;exact⟨A,c,h1,h2.mono hl hB⟩
theorem aH{w2 wr:World}{n c2:Nat}{A2:Option Addr}{sv:Nat->Value}{cs arr:Array Value}(hn:ls.length=n)(J:lo<=w.heap.size)(z1:w.heap.size<=g)(hg:g=w2.heap.size)
 (blk:Blk wr g 364 cs)(hC:Cells ls n (.slice A2 n c2) (.slice (some ⟨gc,0,none⟩) n n) sv cs)(hR:Rows wr (g+1) ls n sv)(h:Below g w2 wr)
 (y:w2.ownsRow w 5 1 (.slice A2 n c2) n (cZ .u8 ls))(E:Blk w2 gc 25 arr)(G:lo<=gc)(hW:Wds ls n n arr):Coder wr lo wr g ls:=by
 subst hn hg;have rz:=h.size;have z:ls.take ls.length=ls:=BV (Aq _);refine⟨mz,blk.lt,blk.frozen,⟨A2,c2,(blk.cell 0).trans hC.lens,?_⟩,⟨some ⟨gc,0,none⟩,ls.length,(blk.cell 1).trans hC.codes,?_⟩,fun l hl=>(blk.cell _).trans (hC.first l hl),fun l hl=> ?_,fun l hl=> ?_⟩
 ·have:=RowIn.of_own (f:=jZ .u8 ls) y rfl (fun i j hi hj=>by have e0:j=0:=mz;subst e0;exact numL_get hi);exact(this.keep (fun p _ h2=>h.cell h2)).mono J rz
 ·have:=RowIn.of_blk (n:=ls.length) (s:=1) (lo:=lo) (B:=w2.heap.size) (f:=fun i _=> .int .u16 (GD ls i:Nat)) E G E.lt (fun i j hi hj=>by
   obtain rfl:j=0:=mz
   rw[CG,Bj,hW.2 i hi,Ae hi])
  exact(this.keep (fun p _ h2=>h.cell h2)).mono (Aq _) rz
 ·have:=hC.many l hl;rw[z]at this;exact(blk.cell _).trans this
 ·have h1:=hR.own l hl;rw[z]at h1;obtain⟨A,c,e⟩:=bZ h1;have h2:=hC.syms l hl;rw[e]at h2;refine⟨A,c,(blk.cell _).trans h2,?_⟩;exact(RowIn.of_own (f:=jZ .i64 (ER ls l)) h1 e (fun i j hi hj=>by have e0:j=0:=mz;subst e0;exact numL_get (by rw[cY];exact hi))).mono mz (Aq _)
end Huff
namespace Huff
open Go.RowKit Mem Canon Own
theorem info_int:(prog.info? 3).map (fun i=>(i.zero,i.size,i.bytes))=some (some (.int .i64 0),1,8):=mr
def Ta(ls:List Nat)(w:World)(e:Ending)(w':World):Prop:=
 ∃g,e= .returned (.tuple #[.pointer (some ⟨g,0,none⟩),ij])/\Coder w' w w' g ls/\Below w w w'
theorem new_any(w:World)(A:Option Addr)(n c:Nat)(ls:List Nat)(hn:ls.length=n)(ak:okB ls=true)(am:A=none->n=0/\c=0)(ha:Row w w A n 1 (jZ .u8 ls)):
 Calls prog 277 #[.slice A n c] w (Ta ls w):=by
 obtain⟨a6,bd,_⟩:=ok_parts ak;rw[hn]at a6;have C1:=hid (fW w A n c ls hn ak ha);have C2:=hid (fun wx (h:Row wx wx A n 1 (jZ .u8 ls))=>If wx A n c ls hn mz am h);have HN:=hid hn;have bj:=hid bd;have bg:=hid ak;obtain⟨j0,a9,be,a3,a4⟩:=info_parts info_int;clear hn ak bd am;go_enter func277,ntmps277;go_wp2_with fail;refine C1.out.mono ?_;rintro e w1 ⟨gc,arr,rfl,bc,hw,bi,aq⟩;have z1:=aq.size;go_wp2_with fail;refine(C2.out _ ((ha.below aq).mono z1)).mono ?_;rintro e w2 ⟨vl,rfl,aj,an⟩;have z2:=an.size;have au:=bc.step an;have U:Below w w w2:=uZ an z1 aq;have HW:=hid hw;have bf:=au.lt;have bh:=(ha.below U).mono U.size;clear hw bc C1 C2;obtain⟨A2,c2,rfl⟩:=bZ aj;go_wp2_with fail;go_loopw [25] (fun i wr=>∃ (k:Nat) (sv:Nat->Value) (cs:Array Value),k<=n/\i= .int .i64 k/\Blk wr w2 364 cs/\Hid (Cells ls k (.slice A2 n c2) (.slice (some ⟨gc,0,none⟩) n n) sv cs)/\Hid (Rows wr (w2.heap.size+1) ls k sv)/\Below w2 w2 wr) (fun i _=>n-(intOf i).toNat)
 case atStart=>exact⟨0,_,_,mz,rfl,Blk.made _ _ _,Cells.start ls _ _,Rows.start _ _ _,aZ (Ag _ _)⟩
 case round=>
  obtain⟨k,sv,cs,hk,rfl,blk,hC,hR,G⟩:=hrel;have rz:=G.size;by_cases ar:k<n
  ·obtain⟨b,bm,x,rfl,bk,hx,c0⟩:=CF (bh.below G) HN.out ar;have HX:=hid hx;have aa:=bj.out x (Bg hx);have x0:(0:Int)<=(k:Int):=mz;have x1:(k:Int)<(n:Int):=mz;clear hx;by_cases ae:x=0
   ·subst ae;go_wp2_with fail;go_roundw
    case rel=>go_light;exact⟨k+1,sv,cs,mz,jp,blk,hC.out.skip HX.out,hR.out.skip HX.out,G⟩
    case measure=>exact jo
   ·have ay:=JU (ls.take k) x;rw[Bd]at ay;have xp:0<x:=mz;have y0:(0:Int)<=(x:Int):=mz;have y1:(x:Int)<16:=mz;have m0:=blk.cell (18+x);rw[hC.out.many x mz]at m0;obtain⟨q,hq⟩:=ii (cn (ls.take k) x);rw[<-hq]at m0 ay;have HQ:=hid hq;clear hq;by_cases al:q=0
    ·have bn:((q:Int)==0)=true:=pQ;have bb:=hid al;clear al;have d0:=(au.below G bf).cell k;rw[HW.out.2 k ar,Ae ar]at d0;have f0:=blk.frozen (2+x);have f1:=blk.cell (2+x);rw[hC.out.first x mz]at f1;have ba:=PT bg.out HX.out ae;have a1:code ls k<65536:=Et ba (by have:2 ^ x<=2 ^ 15:=Cl mz aa;omega);have hv:GD ls k=code ls k:=Nat.mod_eq_of_lt a1;have M:=fun v=>hC.out.fresh (v:=v) HX.out ae aa (HQ.out.symm.trans bb.out);rw[hv]at d0;generalize code ls k=v at *;have az:=hid M;clear hv M ba;go_upto_region 10 with fail;go_region;have z:=(blk.set (2+x) (.int .i64 (v:Nat))).drew;have ah:Hid (∀v',Cells ls (k+1) (.slice A2 n c2) (.slice (some ⟨gc,0,none⟩) n n) (upd sv x v') (((cs.setIfInBounds (2+x) (.int .i64 (v:Nat))).setIfInBounds (18+x) (.int .i64 ((q:Int)+1))).setIfInBounds (34+x) v')):=(by rw[bb.out];exact az.out);clear az;have N:(cs.setIfInBounds (2+x) (.int .i64 (v:Nat)))[18+x]? =some (.int .i64 ((q:Nat):Int)):=(by rw[Array.getElem?_setIfInBounds_ne mz,hC.out.many x mz,<-HQ.out]);have Q:(cs.setIfInBounds (2+x) (.int .i64 (v:Nat)))[34+x]? =some (sv x):=(by rw[Array.getElem?_setIfInBounds_ne mz,hC.out.syms x mz]);have RA:=hid ((hR.out.set blk ip (2+x) (.int .i64 (v:Nat))).drew);have belA:=(B4 (p:=⟨w2.heap.size,2+x,none⟩) (u:= .int .i64 (v:Nat)) (Aq _) G).drew;have zA:=belA.size;clear m0 f0 f1 d0 c0 blk G rz;generalize cs.setIfInBounds (2+x) (.int .i64 (v:Nat))=bp at *;generalize (wr.setCell ⟨w2.heap.size,2+x,none⟩ (.int .i64 (v:Nat))).drew=wA at *;have mA:=z.cell (18+x);rw[N]at mA;have fA:=z.frozen (18+x);have s1:IntKind.i64.wrap ((q:Int)+1)=(q:Int)+1:=Aw _ mz;go_upto_region 11 with fail;go_region;clear s1 mA fA;have E:=(z.set (18+x) (.int .i64 ((q:Int)+1))).drew;have RB:=hid ((RA.out.set z ip (18+x) (.int .i64 ((q:Int)+1))).drew);have Z:=(B4 (p:=⟨w2.heap.size,18+x,none⟩) (u:= .int .i64 ((q:Int)+1)) (Aq _) belA).drew;have zB:=Z.size;have sB:=E.cell (34+x);rw[Array.getElem?_setIfInBounds_ne mz,Q]at sB;have fB:=E.frozen (34+x);have j:=RB.out.own x mz;rw[<-HQ.out]at j;have ai:=gZ j E ip;obtain⟨AS,cS,ac⟩:=bZ j;have ag:=hid ac;rw[ac]at sB j ai;clear N Q z RA belA zA ac;generalize (wA.setCell ⟨w2.heap.size,18+x,none⟩ (.int .i64 ((q:Int)+1))).drew=wB at *;have av:=E.lt;have af:some w2.heap.size≠(Value.slice AS q cS).ownBlock:=AZ ai;go_upto_region 12 with fail;go_region_law((refine step_append_lies _ nc _ _ _ nc (w2.heap.size+1) 3 j0 _ 1 8 underlying37 a9 be a3 a4 rfl mz (.slice AS q cS) q (cZ .i64 (ER (ls.take k) x)) nc ((j.alloc _).drew) ⟨wB,0,none⟩ 1 1 [.int .i64 (k:Nat)] nc nc (World.news_of_block (cs:=#[.int .i64 (k:Nat)]) (t:=3) (fr:=(0,0)) (heap_alloc_new wB _)) mp mz qg mz pQ (wB.heap.size+1) pI ?_;intro g3 a5 w3 ab J ax a0;have gb:w3.heap[w2.heap.size]? =wB.heap[w2.heap.size]? :=(J.block w2 pQ af).trans (Ed wB _ w2 av);have p3:=(World.cell?_of_block (a:=⟨w2.heap.size,34+x,none⟩) gb).trans sB;have p4:=(World.frozen?_of_block (a:=⟨w2.heap.size,34+x,none⟩) gb).trans fB))
     all_goals
      go_wp2_with fail;go_roundw
      case measure=>exact jo
      case rel=>go_light;have Y:Blk w3 w2 364 _:=gb.trans E;have aw:=Rows.push ((RB.out.alloc _).drew) HX.out ae aa HQ.out.symm ab (by rw[ag.out];exact J) (by rw[ag.out];simpa using ax);refine⟨k+1,_,_,mz,jp,Y.set _ _,ah.out _,aw.set Y ip _ _,B4 (p:=⟨w2.heap.size,34+x,none⟩) (Aq _) (((mZ zB Z).drew).grown J pQ (fun y hy=> ?_))⟩;have:=(Am j y hy).1;omega
    ·have bl:((q:Int)==0)=false:=pQ;have M:=fun v=>hC.out.next (v:=v) HX.out ae aa HQ.out.symm al;have ah:Hid (∀v',Cells ls (k+1) (.slice A2 n c2) (.slice (some ⟨gc,0,none⟩) n n) (upd sv x v') ((cs.setIfInBounds (18+x) (.int .i64 ((q:Int)+1))).setIfInBounds (34+x) v')):=M;have N:cs[18+x]? =some (.int .i64 ((q:Nat):Int)):=(by rw[hC.out.many x mz,<-HQ.out]);have Q:=hC.out.syms x mz;have RA:=hR;have belA:=G;have zA:=rz;have z:=blk;obtain⟨wA,rfl⟩:=ii wr;clear blk G rz M al;have mA:=z.cell (18+x);rw[N]at mA;have fA:=z.frozen (18+x);have s1:IntKind.i64.wrap ((q:Int)+1)=(q:Int)+1:=Aw _ mz;go_upto_region 11 with fail;go_region;clear s1 mA fA;have E:=(z.set (18+x) (.int .i64 ((q:Int)+1))).drew;have RB:=hid ((RA.out.set z ip (18+x) (.int .i64 ((q:Int)+1))).drew);have Z:=(B4 (p:=⟨w2.heap.size,18+x,none⟩) (u:= .int .i64 ((q:Int)+1)) (Aq _) belA).drew;have zB:=Z.size;have sB:=E.cell (34+x);rw[Array.getElem?_setIfInBounds_ne mz,Q]at sB;have fB:=E.frozen (34+x);have j:=RB.out.own x mz;rw[<-HQ.out]at j;have ai:=gZ j E ip;obtain⟨AS,cS,ac⟩:=bZ j;have ag:=hid ac;rw[ac]at sB j ai;clear N Q z RA belA zA ac;generalize (wA.setCell ⟨w2.heap.size,18+x,none⟩ (.int .i64 ((q:Int)+1))).drew=wB at *;have av:=E.lt;have af:some w2.heap.size≠(Value.slice AS q cS).ownBlock:=AZ ai;go_upto_region 12 with fail;go_region_law((refine step_append_lies _ nc _ _ _ nc (w2.heap.size+1) 3 j0 _ 1 8 underlying37 a9 be a3 a4 rfl mz (.slice AS q cS) q (cZ .i64 (ER (ls.take k) x)) nc ((j.alloc _).drew) ⟨wB,0,none⟩ 1 1 [.int .i64 (k:Nat)] nc nc (World.news_of_block (cs:=#[.int .i64 (k:Nat)]) (t:=3) (fr:=(0,0)) (heap_alloc_new wB _)) mp mz qg mz pQ (wB.heap.size+1) pI ?_;intro g3 a5 w3 ab J ax a0;have gb:w3.heap[w2.heap.size]? =wB.heap[w2.heap.size]? :=(J.block w2 pQ af).trans (Ed wB _ w2 av);have p3:=(World.cell?_of_block (a:=⟨w2.heap.size,34+x,none⟩) gb).trans sB;have p4:=(World.frozen?_of_block (a:=⟨w2.heap.size,34+x,none⟩) gb).trans fB))
     all_goals
      go_wp2_with fail;go_roundw
      case measure=>exact jo
      case rel=>go_light;have Y:Blk w3 w2 364 _:=gb.trans E;have aw:=Rows.push ((RB.out.alloc _).drew) HX.out ae aa HQ.out.symm ab (by rw[ag.out];exact J) (by rw[ag.out];simpa using ax);refine⟨k+1,_,_,mz,jp,Y.set _ _,ah.out _,aw.set Y ip _ _,B4 (p:=⟨w2.heap.size,34+x,none⟩) (Aq _) (((mZ zB Z).drew).grown J pQ (fun y hy=> ?_))⟩;have:=(Am j y hy).1;omega
  ·obtain rfl:k=n:=by omega
   go_wp2_with fail;go_ret2;exact⟨w2.heap.size,rfl,aH HN.out z1 z2 rfl blk hC.out hR.out G aj au bi HW.out,U.trans (G.mono U.size)⟩
end Huff
namespace Huff
open Go.RowKit Mem Canon Own
theorem Coder.len(hC:Coder w lo B gc ls)(h:∀x∈ls,x<=15)(s:Int)(hs: -9223372036854775808<=s/\s<=9223372036854775807):
 Calls prog 278 #[.pointer (some ⟨gc,0,none⟩),s] w fun e w'=>e= .returned (.int .i64 (Fb ls s:Nat))/\w=w':=by
 obtain⟨A,c,h1,h2⟩:=hC.lens;exact len_any w gc B A ls.length c ls s rfl hs (fun x hx=>by have:=h x hx;omega) h1 h2.row
theorem Coder.drew(h:Coder w lo B g ls):Coder w.drew lo B g ls:=h.keep fun _ _ _=>rfl
theorem Coder.kept{K:Nat->Prop}(h:Coder w lo B g ls)(hk:Kept K w w')(hK:∀k,lo<=k->k<B->K k):Coder w' lo B g ls:=h.keep fun b h1 h2=>hk.block b (hK b h1 h2)
theorem Na(K:Nat->Prop)(w:World)(lo B gc:Nat)(ls:List Nat)(g base:Nat)(t:TypeId)(rest:List Value)(v:Value)(bs:List Bool)(s:Int)(hs: -9223372036854775808<=s/\s<=9223372036854775807)
 (G:okB ls=true)(hC:Coder w lo B gc ls)(hK:∀k,lo<=k->k<B->K k)(h0:Fb ls s≠0)(ac:bs.length<=5000000)(hW:Wr K w base g t rest bs v):
 Calls prog 227 #[.pointer (some ⟨gc,0,none⟩), .pointer (some ⟨g,0,none⟩),s] w
  fun e w'=>e= .returned (.int .i64 0)/\∃v',Wr K w' base g t rest (bs++word ls s.toNat) v'/\Kept K w w':=by
 obtain⟨ab,j,_⟩:=ok_parts G;obtain⟨m,x,rfl,hx,Y⟩:=Xa h0;have U:=j x (Bg hx);have hm:=(CE.1 hx).1;have hl:Fb ls (m:Int)=x:=by unfold Fb;rw[Ab mz];simp[List.getD_eq_getElem?_getD,hx]
 have h:word ls m=msb (code ls m) x x:=by unfold word;simp[List.getD_eq_getElem?_getD,hx]
 have J:=PT G hx Y;have Q:code ls m<65536:=Et J (by have:2 ^ x<=2 ^ 15:=Cl mz U;omega);have M:GD ls m=code ls m:=Nat.mod_eq_of_lt Q;have C1:=hid (hC.len j (m:Int) hs);have C2:=hid (hC.drew.len j (m:Int) hs);have C3:=hid (put_any K w.drew g base t rest v bs (code ls m) x J mz mz hW.drew);rw[hl]at C1 C2;rw[<-h]at C3;rw[Bw];obtain⟨AC,cC,d0,z⟩:=hC.codes;obtain⟨bC,oC,rfl,E,i⟩:=z mz;have KG:Hid (K gc):=hK gc hC.ge hC.lt;have KB:Hid (K bC):=hK bC E.1 E.2;have d1:w.cell? ⟨bC,oC+m,none⟩=some (.int .u16 (code ls m:Nat)):=by have:=i m 0 hm mz;simpa[M]using this
 generalize code ls m=cd at *;generalize ls.length=n at *;clear j G hx hl h J M i z hC h0 hW E hK;go_enter func227,ntmps227;go_wp2_with fail;refine C1.out.mono ?_;rintro e w1 ⟨rfl,rfl⟩;have x0:(0:Int)<=(m:Int):=mz
 have x1:(m:Int)<(n:Int):=mz
 have hu:IntKind.u64.wrap (cd:Int)=(cd:Int):=n5
 rw[<-hu]at C3;clear hu;go_upto_region 5 with fail;go_region_held3 (fun wx=>wx.cell? ⟨gc,1,none⟩=some (.slice (some ⟨bC,oC,none⟩) n cC)/\wx.cell? ⟨bC,oC+m,none⟩=some (.int .u16 cd)) (first|exact⟨d0,d1⟩|exact⟨k0,k1⟩) (first|(go_at_call 278;(with_reducible refine C2.out.mono ?_);rintro e w' ⟨rfl,rfl⟩)|(go_at_call 175;(with_reducible refine C3.out.mono ?_);rintro e w' ⟨rfl,v2,N,y⟩;have k0:w'.cell? ⟨gc,1,none⟩=some (.slice (some ⟨bC,oC,none⟩) n cC):=(World.cell?_of_block (a:=⟨gc,1,none⟩) (y.block gc KG.out)).trans d0;have k1:w'.cell? ⟨bC,oC+m,none⟩=some (.int .u16 cd):=(World.cell?_of_block (a:=⟨bC,oC+m,none⟩) (y.block bC KB.out)).trans d1));have aa:=hid N;have Z:=hid y;clear N y k0 k1 C1 C2 C3;go_wp2_with fail;go_ret;exact⟨rfl,v2,aa.out,(Kept.refl K w).drew.trans Z.out⟩
end Huff
namespace Huff
open Go.RowKit Mem Canon Own
def Rd(w:World)(lo g:Nat)(bs:List Bool)(at_:Nat):Prop:=
 ∃ (A:Option Addr) (n c:Nat) (ls:List Nat),Blk w g 415 #[.slice A n c, .int .i64 ((8*n:Nat):Int),at_]/\RowIn w lo g A n 1 (jZ .u8 ls)/\ls.length=n/\(∀x∈ls,x<=255)/\bs=Bq ls/\at_<=8*n/\n<=100000
theorem Rd.keep{at_:Nat}{bs:List Bool}(h:Rd w lo g bs at_)(hk:∀b,lo<=b->b<=g->w'.heap[b]? =w.heap[b]?)(i:lo<=g):Rd w' lo g bs at_:=by obtain⟨A,n,c,ls,h1,h2,h3⟩:=h;exact⟨A,n,c,ls,(hk g i (Aq _)).trans h1,h2.keep (fun p ha hb=>World.cell?_of_block (hk p.block ha mz)),h3⟩
theorem Rd.drew{at_:Nat}{bs:List Bool}(h:Rd w lo g bs at_):Rd w.drew lo g bs at_:=h
theorem Rd.drewN{at_:Nat}{bs:List Bool}(h:Rd w lo g bs at_)(q:Nat):Rd (w.drewN q) lo g bs at_:=h
theorem Rd.moved{at_:Nat}{bs:List Bool}(h:Rd w lo g bs at_)(hk:at_+k<=bs.length):Rd (w.setCell ⟨g,2,none⟩ (.int .i64 ((at_:Int)+(k:Int)))) lo g bs (at_+k):=by
 obtain⟨A,n,c,ls,h1,h2,h3,h4,h5,h6,h7⟩:=h;refine⟨A,n,c,ls,?_,h2.keep (fun p _ hb=>World.cell?_of_block (AV w _ _ _ (show p.block≠g by omega))),h3,h4,h5,?_,h7⟩
 ·have h:=h1.set 2 (.int .i64 ((at_:Int)+(k:Int)));simpa using h
 ·rw[h5,EC]at hk;omega
theorem Rd.lt{at_:Nat}{bs:List Bool}(h:Rd w lo g bs at_):g<w.heap.size:=by obtain⟨A,n,c,ls,h1,_⟩:=h;exact h1.lt
theorem gO(y:Nat)(hy:y<18446744073709551616):bits .and .u64 (y:Int) 1=((y % 2:Nat):Int):=kq
theorem fM(x y:Nat)(hx:x<9223372036854775808)(hy:y<=1):bits .or .u64 ((2*x:Nat):Int) (y:Int)=((2*x+y:Nat):Int):=by rw[bits_or_u64_nat _ _ mz mz];congr 1;have h:=Nat.two_pow_add_eq_or_of_lt (b:=y) (i:=1) mz x;rw[show 2 ^ 1=2 from rfl]at h;exact h.symm
theorem SK(w:World)(g B:Nat)(A:Option Addr)(n c i:Nat)(ls:List Nat)(hn:ls.length=n)(hN:n<=100000)(h8:∀x∈ls,x<=255)(hi:i<8*n)(hg:w.cell? ⟨g,0,none⟩=some (.slice A n c))(ha:Row w B A n 1 (jZ .u8 ls)):
 Calls prog 328 #[.pointer (some ⟨g,0,none⟩), .int .i64 (i:Nat)] w fun e w'=>e= .returned (.int .u64 (bit (Bq ls) i:Nat))/\w=w':=by
 have hv:=MZ (ls:=ls) (i:=i) mz;obtain⟨b,E,x,rfl,hb,hx,d0⟩:=CF ha hn (show i / 8<n by omega);have j:=h8 x (Bg hx);have h:ls.getD (i / 8) 0=x:=by simp[List.getD_eq_getElem?_getD,hx]
 rw[h]at hv;rw[hv];have x0:(0:Int)<=(i:Int) / 8:=mz
 have x1:(i:Int) / 8<(n:Int):=mz
 have x2:(0:Int)<=7-(i:Int) % 8:=mz
 clear hv h hx h8 hn ha;go_enter func328,ntmps328;go_wp2_with fail;go_ret;refine⟨?_,rfl⟩;have e:((x:Int) / 2 ^ (7-i % 8))=((x / 2 ^ (7-i % 8):Nat):Int):=pI
 have z:=Ho x (2 ^ (7-i % 8));show Ending.returned (.int .u64 (bits .and .u64 (IntKind.u64.wrap ((x:Int) / 2 ^ (7-i % 8))) 1))=_;rw[e];generalize x / 2 ^ (7-i % 8)=y at *;rw[show IntKind.u64.wrap (y:Int)=(y:Int) by rw[Bv];omega,gO y mz]
theorem number_any(w:World)(g B:Nat)(A:Option Addr)(n c at_ m:Nat)(ls:List Nat)(hn:ls.length=n)(hN:n<=100000)(h8:∀x∈ls,x<=255)(Z:at_<=8*n)(hm:m<=64)(hg:w.cell? ⟨g,0,none⟩=some (.slice A n c))(ab:w.cell? ⟨g,1,none⟩=some (.int .i64 ((8*n:Nat):Int)))(ha:Row w B A n 1 (jZ .u8 ls)):
 Calls prog 329 #[.pointer (some ⟨g,0,none⟩), .int .i64 (at_:Nat), .int .i64 (m:Nat)] w fun e w'=>e= .returned (.int .u64 (zZ (Bq ls) at_ m:Nat))/\w=w':=by
 have C:=hid (fun i h=>SK w g B A n c i ls hn hN h8 h hg ha);have HL:Hid ((Bq ls).length=8*n):=by show _=_;rw[EC,hn]
 generalize Bq ls=bs at *;generalize hz:8*n=z at *;have Y:z<=800000:=mz
 clear hn h8 ha hz;go_enter func329,ntmps329;go_wp2_with fail;go_loopw [7,8] (fun u j wr=>∃p x:Nat,at_<=p/\p<=at_+m/\j= .int .i64 (p:Nat)/\u= .int .u64 x/\Hid (x=zZ bs at_ (p-at_))/\w=wr) (fun _ j _=>at_+m-(intOf j).toNat)
 case atStart=>exact⟨at_,0,mz,mz,rfl,rfl,by show 0=_;rw[Gn];rfl,rfl⟩
 case round=>
  obtain⟨p,x,Q,U,rfl,rfl,hx,rfl⟩:=hrel;by_cases aa:p<at_+m
  ·have G:=GO bs at_ (p-at_);rw[<-hx.out]at G;have J:x<9223372036854775808:=Et G (by have:2 ^ (p-at_)<=2 ^ 63:=Cl mz mz;omega);have E:zZ bs at_ (p+1-at_)=2*x+bit bs p:=(by rw[show p+1-at_=(p-at_)+1 by omega,zZ,<-hx.out,show at_+(p-at_)=p by omega]);by_cases N:p<z
   ·have M:=Ey bs p;have C2:=hid (C.out p N);generalize bit bs p=y at *;have HS:=hid E;clear E hx G;go_wp2_with fail;refine C2.out.mono ?_;rintro e w1 ⟨rfl,rfl⟩;go_wp2_with fail;go_roundw
    case measure=>exact jo
    case rel=>go_light;have e:bits .or .u64 ((x:Int)*2) (y:Int)=((2*x+y:Nat):Int):=(by rw[<-fM x y J M];congr 1;omega);exact⟨p+1,2*x+y,mz,mz,jp,by rw[e],HS.out.symm,trivial⟩
   ·rw[Fw (by rw[HL.out];omega)]at E;have HS:=hid E;clear E hx G;go_wp2_with fail;go_roundw
    case measure=>exact jo
    case rel=>go_light;exact⟨p+1,2*x,mz,mz,jp,jp,HS.out.symm,trivial⟩
  ·obtain rfl:p=at_+m:=by omega
   go_wp2_with fail;go_ret;exact⟨by rw[hx.out,I2];rfl,rfl⟩
theorem left_any(w:World)(lo g:Nat)(bs:List Bool)(at_:Nat)(hR:Rd w lo g bs at_):
 Calls prog 297 #[.pointer (some ⟨g,0,none⟩)] w fun e w'=>e= .returned (.int .i64 ((bs.length-at_:Nat):Int))/\∃q,w'=w.drewN q:=by
 obtain⟨A,n,c,ls,h1,h2,h3,h4,h5,h6,h7⟩:=hR;have hl:bs.length=8*n:=by rw[h5,EC,h3]
 rw[hl];have c1:=h1.ia 1;have c2:=h1.ia 2;have hz:8*n<=800000:=mz
 generalize 8*n=z at *;have s1:IntKind.i64.wrap ((z:Int)-(at_:Int))=((z-at_:Nat):Int):=nW
 clear h1 h2 h3 h4 h5 hl;go_enter func297,ntmps297;go_wp2_with fail;go_quiet (fail);go_wp2_with fail;go_ret;exact⟨rfl,_,rfl⟩
theorem ZW(w:World)(lo g:Nat)(bs:List Bool)(at_ k:Nat)(hk:k<=100000)(hR:Rd w lo g bs at_):
 Calls prog 365 #[.pointer (some ⟨g,0,none⟩), .int .i64 (k:Nat)] w fun e w'=>e= .returned (.int .i64 (if at_+k<=bs.length then 0 else 1))/\Rd w' lo g bs (if at_+k<=bs.length then at_+k else at_)/\Kept (fun x=>x≠g) w w':=by
 have C:=hid (left_any w lo g bs at_ hR);have HR:=hid hR;have j:at_<=bs.length/\bs.length<=800000:=mt
 have c2:w.cell? ⟨g,2,none⟩=some (.int .i64 at_):=by obtain⟨A,n,c,ls,h1,_⟩:=hR;exact h1.cell 2
 have f2:w.frozen? ⟨g,2,none⟩=false:=by obtain⟨A,n,c,ls,h1,_⟩:=hR;exact h1.frozen 2
 obtain⟨z,hz⟩:=ii bs.length;rw[<-hz]at C j ⊢;have HZ:=hid hz;obtain⟨E,y⟩:=j;clear hR hz;by_cases i:at_+k<=z
 ·rw[Ae i,Ae i];have x1:(k:Int)<=((z-at_:Nat):Int):=by omega
  go_enter func365,ntmps365;go_wp2_with fail;refine C.out.mono ?_;rintro e w1 ⟨rfl,q,rfl⟩;go_wp2_with fail;go_ret;exact⟨rfl,(HR.out.drewN q).moved (by rw[<-HZ.out];exact i),Kept.set (p:=⟨g,2,none⟩) ((Kept.refl _ w).drewN q) (fun h=>h rfl) _⟩
 ·rw[Ab i,Ab i];have x1:¬(k:Int)<=((z-at_:Nat):Int):=by omega
  go_enter func365,ntmps365;go_wp2_with fail;refine C.out.mono ?_;rintro e w1 ⟨rfl,q,rfl⟩;go_wp2_with fail;go_ret;exact⟨rfl,HR.out.drewN q,(Kept.refl _ w).drewN q⟩
theorem ZE(w:World)(lo g:Nat)(bs:List Bool)(at_ m:Nat)(hm:m<=64)(hR:Rd w lo g bs at_):
 Calls prog 363 #[.pointer (some ⟨g,0,none⟩), .int .i64 (m:Nat)] w fun e w'=>e= .returned (.tuple #[.int .u64 (zZ bs at_ m:Nat), .int .i64 ((min m (bs.length-at_):Nat):Int)])/\∃q,w'=w.drewN q:=by
 have C1:=hid (fun q=>left_any (w.drewN q) lo g bs at_ (hR.drewN q));obtain⟨A,n,c,ls,h1,h2,h3,h4,h5,h6,h7⟩:=hR;have c0:=h1.ia 0;have c1:=h1.ia 1;have c2:=h1.ia 2;have C2:=hid (fun q=>(number_any (w.drewN q) g g A n c at_ m ls h3 h7 h4 h6 hm c0 c1 (h2.row.drewN q)).mono (fun e w' h=>And.intro h.1 h.2.symm));rw[<-h5]at C2;generalize bs.length-at_=d at *;generalize zZ bs at_ m=y at *;clear h1 h2 h3 h4 h5 h6 c0 c1;go_enter func363,ntmps363;go_wp2_with fail;go_quiet (first|(go_at_call 329;exact CP (C2.out _))|(go_at_call 297;exact Calls.quiet_of (C1.out _)));go_wp2_with fail
 all_goals
  go_ret2;refine⟨?_,_,rfl⟩
  first
  |(rw[show min m d=d by omega];rfl)
  |(rw[show min m d=m by omega];rfl)
theorem Rd.cellAt{at_:Nat}{bs:List Bool}(h:Rd w lo g bs at_):w.cell? ⟨g,2,none⟩=some (.int .i64 at_):=by obtain⟨A,n,c,ls,h1,_⟩:=h;exact h1.cell 2
theorem Pk(w:World)(lo g:Nat)(bs:List Bool)(at_ m:Nat)(hm:m<=64)(hR:Rd w lo g bs at_)(q:Nat):
 Calls prog 329 #[.pointer (some ⟨g,0,none⟩), .int .i64 (at_:Nat), .int .i64 (m:Nat)] (w.drewN q) fun e w'=>e= .returned (.int .u64 (zZ bs at_ m:Nat))/\w'=w.drewN q:=by
 obtain⟨A,n,c,ls,h1,h2,h3,h4,h5,h6,h7⟩:=hR;have c0:=h1.cell 0;have c1:=h1.cell 1;have h:=(number_any (w.drewN q) g g A n c at_ m ls h3 h7 h4 h6 hm c0 c1 (h2.row.drewN q)).mono (fun e w' h=>And.intro h.1 h.2.symm);rw[<-h5]at h;exact h
def FP(bs:List Bool)(at_:Nat):Int:=if bs.length-at_≥8∨zZ bs at_ (bs.length-at_)≠0 then 2 else 0
theorem eD(w:World)(lo g:Nat)(bs:List Bool)(at_:Nat)(hR:Rd w lo g bs at_):
 Calls prog 332 #[.pointer (some ⟨g,0,none⟩)] w fun e w'=>e= .returned (.int .i64 (FP bs at_))/\∃q,w'=w.drewN q:=by
 have C1:=hid (left_any w lo g bs at_ hR);have HR:=hid hR;clear hR;by_cases h8:bs.length-at_<8
 ·by_cases h0:zZ bs at_ (bs.length-at_)=0
  ·have hE:FP bs at_=0:=(by unfold FP;rw[Ab mz]);rw[hE];clear hE;have H0:=hid h0;clear h0;go_enter func332,ntmps332;go_wp2_with fail;refine C1.out.mono ?_;rintro e w1 ⟨rfl,q1,h⟩;have i:Rd w1 lo g bs at_:=oU;have c2:=i.cellAt;have HQ:=hid h;clear h;have C2:=hid (Pk w1 lo g bs at_ (bs.length-at_) mz i);rw[H0.out]at C2;clear i;generalize bs.length-at_=d at *;have j:=ig ((8:Int)<=d);go_wp2_with fail;go_quiet (first|(go_at_call 329;exact CP (C2.out _)));go_wp2_with fail;go_ret;refine⟨rfl,?_⟩;rw[HQ.out];exact⟨_,FT _ _ _⟩
  ·have hE:FP bs at_=2:=(by unfold FP;rw[Ae (.inr h0)]);rw[hE];clear hE;go_enter func332,ntmps332;go_wp2_with fail;refine C1.out.mono ?_;rintro e w1 ⟨rfl,q1,h⟩;have i:Rd w1 lo g bs at_:=oU;have c2:=i.cellAt;have HQ:=hid h;clear h;have C2:=hid (Pk w1 lo g bs at_ (bs.length-at_) mz i);clear i;generalize bs.length-at_=d at *;generalize zZ bs at_ d=y at *;have z:((y:Int) != 0)=true:=bne_iff_ne.mpr mz;clear h0;have j:=ig ((8:Int)<=d);go_wp2_with fail;go_quiet (first|(go_at_call 329;exact CP (C2.out _)));go_wp2_with fail;go_ret;refine⟨rfl,?_⟩;rw[HQ.out];exact⟨_,FT _ _ _⟩
 ·have hE:FP bs at_=2:=by unfold FP;rw[Ae (.inl mz)]
  rw[hE];clear hE;go_enter func332,ntmps332;go_wp2_with fail;refine C1.out.mono ?_;rintro e w1 ⟨rfl,q1,h⟩;have i:Rd w1 lo g bs at_:=oU
  have c2:=i.cellAt;have HQ:=hid h;clear h;clear i;generalize bs.length-at_=d at *;have j:=ic ((8:Int)<=d)
  go_wp2_with fail;go_quiet (fail);go_wp2_with fail;go_ret;refine⟨rfl,?_⟩;rw[HQ.out];exact⟨_,FT _ _ _⟩
theorem VN(w:World)(A:Option Addr)(n c:Nat)(ls:List Nat)(hn:ls.length=n)(G:n<=100000)(h8:∀x∈ls,x<=255)(E:A=none->n=0/\c=0)(ha:Row w w A n 1 (jZ .u8 ls)):
 Calls prog 294 #[.slice A n c] w fun e w'=>∃g,e= .returned (.pointer (some ⟨g,0,none⟩))/\Rd w' w g (Bq ls) 0/\w.heap.size<=g/\Below w w w':=by
 have C:=hid (If w A n c ls hn G E ha);have HN:=hid hn;have H8:=hid h8;clear hn h8 E ha;go_enter func294,ntmps294;go_wp2_with fail;refine C.out.mono ?_;rintro e w1 ⟨v,rfl,y,M⟩;obtain⟨A1,c1,rfl⟩:=bZ y;have z1:=M.size;have z:=RowIn.of_own (f:=jZ .u8 ls) (s:=1) y rfl (fun i j hi hj=>by have e0:j=0:=mz;subst e0;exact numL_get (by rw[HN.out];exact hi));have J:=hid z;clear y z C;go_wp2_with fail;go_ret;refine⟨_,rfl,⟨A1,n,c1,ls,?_,?_,HN.out,H8.out,rfl,mz,G⟩,z1,mZ z1 M⟩
 ·have h:=Blk.made w1 415 #[.slice A1 n c1, .int .i64 ((8*n:Nat):Int), .int .i64 ((0:Nat):Int)];simpa using h
 ·exact J.out.keep (fun p _ h=>World.cell?_alloc_lt (w:=w1) (a:=p) (o:=_) h)
end Huff
namespace Huff
open Go.RowKit Mem Canon Own
theorem Nu(h:0<cn ls l):EX ls ls.length l=fst ls l:=by unfold EX;rw[List.take_length,Ab mz]
theorem Vf(h:cn ls l=0):EX ls ls.length l=0:=by unfold EX;rw[List.take_length,Ae h]
theorem Pd(i:okB ls=true)(l:Nat)(hl:l<=15):EX ls ls.length l+cn ls l<=65536:=by
 obtain⟨h1,h2,h3⟩:=ok_parts i;have h4:=JU ls l;by_cases h:0<cn ls l
 ·rw[Nu h];have h5:=L7 ls l hl;have h6:=Ls ls (show l+1<=16 by omega);have h7:(fst ls l+cn ls l)*1<=(fst ls l+cn ls l)*2 ^ (15-l):=Nat.mul_le_mul_left _ (FV _);omega
 ·rw[Vf mz];omega
theorem YJ(w:World)(lo B g:Nat)(ls:List Nat)(y l k s:Nat)(j:okB ls=true)(hC:Coder w lo B g ls)(h0:0<l)(hl:l<=15)(hk:k<cn ls l)(hy:y=fst ls l+k)(hs:(symsOf ls l)[k]? =some s):
 Calls prog 364 #[.pointer (some ⟨g,0,none⟩), .int .u64 (y:Nat), .int .i64 (l:Nat)] w fun e w'=>e= .returned (.tuple #[s,true])/\w=w':=by
 have hF:=Pd j l hl;have c1:=hC.first l mz;have c2:=hC.many l mz;obtain⟨AS,cS,c3,i⟩:=hC.syms l mz;obtain⟨b,E,rfl,_,h⟩:=i mz;have c4:=h k 0 hk mz;have z:ER ls l=symsOf ls l:=by unfold ER;rw[Ab mz]
 rw[z]at c4;have c5:w.cell? ⟨b,E+k,none⟩=some (.int .i64 s):=by simpa[jZ,List.getD_eq_getElem?_getD,hs]using c4
 rw[Nu mz]at c1 hF;generalize fst ls l=F at *;generalize cn ls l=M at *;have G:s<=300:=by have h1:=(Rs ls k s hs).1;have h2:=(CE.1 h1).1;have h3:=(ok_parts j).1;omega
 have x0:(0:Int)<=(l:Int):=mz
 have x1:(l:Int)<16:=mz
 have x2:(0:Int)<=(k:Int):=mz
 have x3:(k:Int)<(M:Int):=mz
 have x4:¬(k:Int)<0:=mz
 have s1:IntKind.i64.wrap ((y:Int)-(F:Int))=(k:Int):=nW
 have s2:IntKind.i64.wrap (y:Int)=(y:Int):=Aw _ mz;clear hF i h c4 z hs j hC hy;go_enter func364,ntmps364;go_wp2_with fail;go_ret2;exact⟨rfl,rfl⟩
theorem Yr(w:World)(lo B g:Nat)(ls:List Nat)(y l:Nat)(j:okB ls=true)(hC:Coder w lo B g ls)(h0:0<l)(hl:l<=15)(J:y<=65535)(hy:y<fst ls l∨fst ls l+cn ls l<=y):
 Calls prog 364 #[.pointer (some ⟨g,0,none⟩), .int .u64 (y:Nat), .int .i64 (l:Nat)] w fun e w'=>e= .returned (.tuple #[ij,false])/\w=w':=by
 have hF:=Pd j l hl;have c1:=hC.first l mz;have c2:=hC.many l mz
 have i:(y:Int)-(EX ls ls.length l:Nat)<0∨((cn ls l:Nat):Int)<=(y:Int)-(EX ls ls.length l:Nat):=by
  by_cases h:0<cn ls l
  ·rw[Nu h];omega
  ·rw[Vf mz];omega
 generalize EX ls ls.length l=F at *;generalize cn ls l=M at *;have x0:(0:Int)<=(l:Int):=mz
 have x1:(l:Int)<16:=mz
 have s2:IntKind.i64.wrap (y:Int)=(y:Int):=Aw _ mz;obtain⟨z,hz⟩:∃z:Int,z=(y:Int)-(F:Int):=⟨_,rfl⟩;have s1:IntKind.i64.wrap ((y:Int)-(F:Int))=z:=by rw[Aw _ mz,hz]
 rw[<-hz]at i;clear j hC hy hF hz;by_cases E:z<0
 ·clear i;go_enter func364,ntmps364;go_wp2_with fail;go_ret2;exact⟨rfl,rfl⟩
 ·have G:(M:Int)<=z:=by omega
  clear i;go_enter func364,ntmps364;go_wp2_with fail;go_ret2;exact⟨rfl,rfl⟩
def meets(ls:List Nat)(y l k:Nat):Prop:=0<cn ls k/\y*2 ^ (k-l)<fst ls k+cn ls k/\fst ls k<y*2 ^ (k-l)+2 ^ (k-l)
instance (ls:List Nat) (y l k:Nat):Decidable (meets ls y l k):=by unfold meets;infer_instance
def I0(ls:List Nat)(y l:Nat):Bool:=(List.range 16).any fun k=>decide (l<k/\meets ls y l k)
theorem U4(h1:l<k)(h2:k<=15)(h3:meets ls y l k):I0 ls y l=true:=by unfold I0;rw[List.any_eq_true];exact⟨k,Fm.2 mz,by simpa using ⟨h1,h3⟩⟩
theorem Ov(h:∀k,l<k->k<16->¬meets ls y l k):I0 ls y l=false:=by unfold I0;rw[List.any_eq_false];intro k hk;have:=Fm.1 hk;simp only[decide_eq_true_eq,not_and];exact fun h1=>h k h1 this
theorem gQ(h:∀x∈ls,x<=15)(X there:Nat):I0 ls (X / 2 ^ (15-there)) there=(List.range ls.length).any (Jy ls X there):=by
 cases hb:(List.range ls.length).any (Jy ls X there)
 ·refine Ov fun k h1 h2 h3=> ?_;obtain⟨s,hs,hc⟩:=nF h1 h3.1 h3.2.1 h3.2.2;rw[List.any_eq_false]at hb;have:=hb s (Fm.2 (CE.1 hs).1);exact this (Rp.2 ⟨k,hs,h1,hc.symm⟩)
 ·rw[List.any_eq_true]at hb;obtain⟨s,_,hs⟩:=hb;obtain⟨k,hk,h1,hc⟩:=Rp.1 hs;exact U4 h1 (h k (Bg hk)) (mJ h1 hk hc.symm)
theorem N8(n:Nat)(h:n<=65536):wrap64 (n:Int)=(n:Int):=I5 _ mz
theorem TP(d:Nat):((2:Int) ^ d)=((2 ^ d:Nat):Int):=pI
theorem Zf(y d:Nat)(h:y*2 ^ d<2 ^ 15):wrap64 ((y:Int)*2 ^ d)=((y*2 ^ d:Nat):Int):=by rw[TP,<-Int.natCast_mul];exact N8 _ mz
theorem dG(P d:Nat)(hP:P<2 ^ 15)(h:2 ^ d<=2 ^ 15):wrap64 ((P:Int)+wrap64 (2 ^ d))=(P:Int)+((2 ^ d:Nat):Int):=by rw[TP,N8 _ mz,<-Int.natCast_add];exact N8 _ mz
theorem YN(w:World)(lo B g:Nat)(ls:List Nat)(y l:Nat)(af:okB ls=true)(hC:Coder w lo B g ls)(hl:l<15)(hy:y<2 ^ l):
 Calls prog 366 #[.pointer (some ⟨g,0,none⟩), .int .u64 (y:Nat), .int .i64 (l:Nat)] w fun e w'=>e= .returned (.bool (I0 ls y l))/\∃q,w'=w.drewN q:=by
 have HC:=hid hC;have ai:=hid af;have HY:=hid hy;have ak:y<=32768:=by have:2 ^ l<=2 ^ 15:=Cl mz mz;omega
 clear af hC hy;go_enter func366,ntmps366;go_wp2_with fail;go_loopw [7] (fun i wr=>∃k:Nat,l<k/\k<=16/\i= .int .i64 k/\Hid (∀j,l<j->j<k->¬meets ls y l j)/\Hid (∃q,wr=w.drewN q)) (fun i _=>16-(intOf i).toNat)
 case atStart=>exact⟨l+1,mz,mz,jp,(fun j h1 h2=>by omega),⟨0,rfl⟩⟩
 case round=>
  obtain⟨k,ah,al,rfl,J,N⟩:=hrel;by_cases ag:k<16
  ·have ac:Coder wr lo B g ls:=(by obtain⟨q,hq⟩:=N.out;rw[hq];exact HC.out.keep (fun _ _ _=>rfl));have c1:=ac.first k ag;have c2:=ac.many k ag;have hF:=Pd ai.out k mz;have ab:2 ^ (k-l)<=2 ^ 15:=Cl mz mz;have aa:y*2 ^ (k-l)<2 ^ 15:=by have h1:y*2 ^ (k-l)<2 ^ l*2 ^ (k-l):=Nat.mul_lt_mul_of_pos_right HY.out (FV _);rw[<-Nat.pow_add,show l+(k-l)=k by omega]at h1;have h2:2 ^ k<=2 ^ 15:=Cl mz mz;omega
   have Z:meets ls y l k↔0<cn ls k/\y*2 ^ (k-l)<EX ls ls.length k+cn ls k/\EX ls ls.length k<y*2 ^ (k-l)+2 ^ (k-l):=by
    unfold meets;by_cases h:0<cn ls k
    ·rw[Nu h]
    ·constructor
     ·intro h1;exact absurd h1.1 h
     ·intro h1;exact absurd h1.1 h
   have x0:(0:Int)<=(k:Int):=mz;have x1:(k:Int)<16:=mz;have x2:(0:Int)<=(k:Int)-(l:Int):=mz;go_upto_region 5 with fail;obtain⟨D,hD⟩:=ii (2 ^ (k-l));obtain⟨P,hP⟩:=ii (y*D);rw[<-hD]at ab aa Z;rw[<-hP]at aa Z;generalize EX ls ls.length k=F at *;generalize cn ls k=M at *;have e:=Zf y (k-l) (by rw[<-hD,<-hP];exact aa);rw[<-hD,<-hP]at e;have e2:=dG P (k-l) aa (by rw[<-hD];exact ab);rw[<-hD]at e2;rw[e];clear e;have s1:IntKind.i64.wrap ((F:Int)+(M:Int))=(F:Int)+(M:Int):=Aw _ mz;have G:=hid Z;clear hP ac Z;by_cases hM:0<M
   ·by_cases h1:P<F+M
    ·have g1:=ic ((P:Int)<(F:Int)+(M:Int));by_cases h2:F<P+D
     ·have g2:decide ((F:Int)<wrap64 ((P:Int)+wrap64 (2 ^ (k-l))))=true:=(by rw[e2];simp;omega);have HA:=hid (U4 ah mz (G.out.2 ⟨hM,h1,h2⟩));clear hD e2 h1 h2;go_quiet (fail);go_wp2_with fail;go_ret;obtain⟨q,rfl⟩:=N.out;exact⟨by rw[HA.out];rfl,_,FT _ _ _⟩
     ·have g2:decide ((F:Int)<wrap64 ((P:Int)+wrap64 (2 ^ (k-l))))=false:=(by rw[e2];simp;omega);have E:¬meets ls y l k:=fun h=>h2 (G.out.1 h).2.2
      have z:∀j,l<j->j<k+1->¬meets ls y l j:=by
       intro j Q ae;by_cases Y:j=k
       ·rw[Y];exact E
       ·exact J.out j Q mz
      have U:=hid z;clear hD e2 h1 h2 E z J G;go_quiet (fail);go_wp2_with fail;go_roundw
      case measure=>exact jo
      case rel=>exact jl
    ·have g1:=ig ((P:Int)<(F:Int)+(M:Int));have E:¬meets ls y l k:=fun h=>h1 (G.out.1 h).2.1;have h2:=0
     have z:∀j,l<j->j<k+1->¬meets ls y l j:=by
      intro j Q ae;by_cases Y:j=k
      ·rw[Y];exact E
      ·exact J.out j Q mz
     have U:=hid z;clear hD e2 h1 h2 E z J G;go_quiet (fail);go_wp2_with fail;go_roundw
     case measure=>exact jo
     case rel=>exact jl
   ·have aj:M=0:=mz;subst aj;have E:¬meets ls y l k:=fun h=>hM (G.out.1 h).1;have h1:=0;have h2:=0
    have z:∀j,l<j->j<k+1->¬meets ls y l j:=by
     intro j Q ae;by_cases Y:j=k
     ·rw[Y];exact E
     ·exact J.out j Q mz
    have U:=hid z;clear hD e2 h1 h2 E z J G;go_quiet (fail);go_wp2_with fail;go_roundw
    case measure=>exact jo
    case rel=>exact jl
  ·obtain rfl:k=16:=by omega
   have HA:=hid (Ov J.out);go_wp2_with fail;go_ret;exact⟨by rw[HA.out];rfl,N.out⟩
end Huff
namespace Huff
open Go.RowKit Mem Canon Own
theorem PJ(X d:Nat):((X / 2 ^ d:Nat):Int)=(X:Int) / 2 ^ d:=pI
theorem bT(bs:List Bool)(at_:Nat):head bs at_<32768:=GO bs at_ 15
theorem iH(X l:Nat)(hX:X<32768)(hl:l<=15):X / 2 ^ (15-l)<2 ^ l:=by
 apply Nat.div_lt_of_lt_mul
 rw[<-Nat.pow_add,show 15-l+l=15 by omega];omega
def Nx(ls:List Nat)(bs:List Bool)(at_ lo g:Nat)(w:World)(e:Ending)(w':World):Prop:=
 e= .returned (.tuple #[.int .i64 (En ls (head bs at_) (there bs at_)).1, .int .i64 (En ls (head bs at_) (there bs at_)).2.1])/\
  Rd w' lo g bs (at_+(En ls (head bs at_) (there bs at_)).2.2)/\Kept (fun x=>x≠g) w w'
theorem Sy(w:World)(G cB gc lo g:Nat)(ls:List Nat)(bs:List Bool)(at_:Nat)(ae:okB ls=true)(hC:Coder w G cB gc ls)(hR:Rd w lo g bs at_):
 Calls prog 353 #[.pointer (some ⟨gc,0,none⟩), .pointer (some ⟨g,0,none⟩)] w (Nx ls bs at_ lo g w):=by
 have C1:=hid (ZE w lo g bs at_ 15 mz hR);have hX:=bT bs at_;have am:there bs at_<=15:=by unfold there;omega
 have aq:there bs at_<=bs.length-at_:=by unfold there;omega
 have an:at_<=bs.length:=by obtain⟨A,n,c,l,h1,h2,h3,h4,h5,h6,h7⟩:=hR;rw[h5,EC,h3];exact h6
 change Hid (Calls _ _ _ _ fun e w'=>e= .returned (.tuple #[.int .u64 (head bs at_:Nat), .int .i64 (there bs at_:Nat)])/\∃q,w'=w.drewN q)at C1
 unfold Nx;generalize head bs at_=X at *;generalize there bs at_=th at *;have HC:=hid hC;have HR:=hid hR;have J:=hid ae;clear hC hR ae;go_enter func353,ntmps353;go_wp2_with fail;refine C1.out.mono ?_;rintro e w1 ⟨rfl,q1,N⟩;have aa:Hid (Coder w1 G cB gc ls):=by show Coder w1 G cB gc ls;rw[N];exact HC.out.keep (fun _ _ _=>rfl)
 have U:Hid (Rd w1 lo g bs at_):=by show Rd w1 lo g bs at_;rw[N];exact HR.out
 have Q:Hid (Kept (fun x=>x≠g) w w1):=by show Kept _ w w1;rw[N];exact(Kept.refl _ w).drewN q1
 clear N C1;go_wp2_with fail;go_loopw [8] (fun i wr=>∃l:Nat,1<=l/\l<=th+1/\i= .int .i64 l/\Hid (∀s,hit ls X (l-1) s=false)/\w1=wr) (fun i _=>17-(intOf i).toNat)
 case atStart=>exact⟨1,mz,mz,rfl,Wb ls X,rfl⟩
 case round=>
  obtain⟨l,ar,au,rfl,E,rfl⟩:=hrel;by_cases al:l<=th
  ·by_cases M:∃k,k<cn ls l/\X / 2 ^ (15-l)=fst ls l+k
   ·obtain⟨k,hk,hy⟩:=M;obtain⟨s,af,ab,ac⟩:=Wo mz hk hy;have C2:=YJ w1 G cB gc ls _ l k s J.out aa.out mz mz hk hy af;rw[PJ]at C2;have C2:=hid C2;have C3:=ZW w1 lo g bs at_ l mz U.out;rw[Ae mz,Ae mz]at C3;have C3:=hid C3;have HG:=hid (Q9 J.out ab (V1 al ac));clear hk hy af ab ac E;go_wp2_with fail;refine C2.out.mono ?_;rintro e w2 ⟨rfl,rfl⟩;go_wp2_with fail;refine C3.out.mono ?_;rintro e w3 ⟨rfl,ag,ai⟩;go_wp2_with fail;go_ret2;rw[HG.out];exact⟨rfl,ag,Q.out.trans ai⟩
   ·have hy:X / 2 ^ (15-l)<fst ls l∨fst ls l+cn ls l<=X / 2 ^ (15-l):=by
     by_cases h:X / 2 ^ (15-l)<fst ls l
     ·exact .inl h
     ·refine .inr (Nat.le_of_not_lt fun h2=>M ⟨X / 2 ^ (15-l)-fst ls l,mz,mz⟩)
    have aj:=Ho X (2 ^ (15-l));have C2:=Yr w1 G cB gc ls (X / 2 ^ (15-l)) l J.out aa.out mz mz mz hy;rw[PJ]at C2;have C2:=hid C2;have y:∀s,hit ls X l s=false:=(by obtain⟨j,rfl⟩:∃j,l=j+1:=⟨l-1,mz⟩;exact WA E.out hy);have ah:=hid y;clear M hy aj E y;go_wp2_with fail;refine C2.out.mono ?_;rintro e w2 ⟨rfl,rfl⟩;go_wp2_with fail;go_roundw
    case measure=>exact jo
    case rel=>go_light;exact⟨l+1,mz,mz,jp,ah.out,trivial⟩
  ·have Y:l-1=th:=mz;have y:=E.out;rw[Y]at y;have hG:=V5 y;obtain⟨_,Z,_⟩:=ok_parts J.out;rw[<-gQ Z]at hG;have HG:=hid hG;by_cases ak:th<15
   ·have C2:=YN w1 G cB gc ls (X / 2 ^ (15-th)) th J.out aa.out ak (iH X th hX am);rw[PJ]at C2;have C2:=hid C2;have x1:(th:Int)<15:=mz;cases z:I0 ls (X / 2 ^ (15-th)) th
    ·rw[z]at C2 HG;clear Y E y hG Z z;go_wp2_with fail;refine C2.out.mono ?_;rintro e w2 ⟨rfl,q2,rfl⟩;go_wp2_with fail;go_ret2;rw[HG.out];exact⟨rfl,U.out.drewN q2,Q.out.drewN q2⟩
    ·rw[z]at C2 HG;clear Y E y hG Z z;go_wp2_with fail;refine C2.out.mono ?_;rintro e w2 ⟨rfl,q2,rfl⟩;go_wp2_with fail;go_ret2;rw[HG.out];exact⟨rfl,U.out.drewN q2,Q.out.drewN q2⟩
   ·have z:I0 ls (X / 2 ^ (15-th)) th=false:=Ov fun k h1 h2=>by omega
    rw[z]at HG;clear Y E y hG Z z;go_wp2_with fail;go_ret2;rw[HG.out];exact⟨rfl,U.out,Q.out⟩
end Huff
namespace Huff
open Go.RowKit Mem Canon Own
end Huff
namespace Huff
open Go.RowKit Mem Canon Own
def IM(bs:List Bool)(at_ m:Nat):Nat:=if at_+m<=bs.length then zZ bs at_ m else 0
def IL(bs:List Bool)(at_ m:Nat):Int:=if at_+m<=bs.length then 0 else 1
def II(bs:List Bool)(at_ m:Nat):Nat:=if at_+m<=bs.length then at_+m else at_
theorem JG(w:World)(lo g:Nat)(bs:List Bool)(at_ m:Nat)(hm:m<=64)(hR:Rd w lo g bs at_):
 Calls prog 298 #[.pointer (some ⟨g,0,none⟩), .int .i64 (m:Nat)] w fun e w'=>e= .returned (.tuple #[.int .u64 (IM bs at_ m:Nat), .int .i64 (IL bs at_ m)])/\Rd w' lo g bs (II bs at_ m)/\Kept (fun x=>x≠g) w w':=by
 have C:=hid (left_any w lo g bs at_ hR);have HR:=hid hR;have G:at_<=bs.length/\bs.length<=800000:=mt
 obtain⟨M,N⟩:=G;have c2:=hR.cellAt;have f2:w.frozen? ⟨g,2,none⟩=false:=by obtain⟨A,n,c,ls,h1,_⟩:=hR;exact h1.frozen 2
 unfold IM IL II;by_cases i:at_+m<=bs.length
 ·rw[Ae i,Ae i,Ae i];have C2:=hid (Pk w lo g bs at_ m hm hR);have x1:(m:Int)<=((bs.length-at_:Nat):Int):=by omega
  have J:=hid i;generalize zZ bs at_ m=y at *;clear hR i;go_enter func298,ntmps298;go_wp2_with fail;refine C.out.mono ?_;rintro e w1 ⟨rfl,q,hq⟩;have j:Rd w1 lo g bs at_:=by rw[hq];exact HR.out.drewN q
  have d2:=j.cellAt;have g2:w1.frozen? ⟨g,2,none⟩=false:=by rw[hq];exact f2
  have C4:Hid (∀p,Calls prog 329 #[.pointer (some ⟨g,0,none⟩), .int .i64 (at_:Nat), .int .i64 (m:Nat)] (w1.drewN p) fun e w'=>e= .returned (.int .u64 (y:Nat))/\w'=w1.drewN p):=by intro p;have h:=C2.out (q+p);rw[hq,FT];exact h
  have E:=hid j;have z:Hid (Kept (fun x=>x≠g) w w1):=by show Kept _ w w1;rw[hq];exact(Kept.refl _ w).drewN q
  clear hq j C C2 c2 f2;go_wp2_with fail;go_quiet (first|(go_at_call 329;exact CP (C4.out _)));go_wp2_with fail;go_ret2;exact⟨rfl,(E.out.drewN _).moved J.out,Kept.set (p:=⟨g,2,none⟩) (z.out.drewN _) (fun h=>h rfl) _⟩
 ·rw[Ab i,Ab i,Ab i];have x1:¬(m:Int)<=((bs.length-at_:Nat):Int):=by omega
  clear hR;go_enter func298,ntmps298;go_wp2_with fail;refine C.out.mono ?_;rintro e w1 ⟨rfl,q,rfl⟩;go_wp2_with fail;go_ret2;exact⟨rfl,HR.out.drewN q,(Kept.refl _ w).drewN q⟩
end Huff
namespace Huff
open Go.RowKit Mem Canon Own
def unC(bs:List Bool):Nat->Nat->Nat
 |_,0=>0
 |i,f+1=>if bit bs i=1 then 0 else unC bs (i+1) f+1
def unD(bs:List Bool)(at_:Nat):Nat:=unC bs at_ (bs.length-at_)
def unV(bs:List Bool)(at_:Nat):Nat:=if at_+unD bs at_<bs.length then unD bs at_ else 0
def unE(bs:List Bool)(at_:Nat):Int:=if at_+unD bs at_<bs.length then 0 else 1
def unA(bs:List Bool)(at_:Nat):Nat:=if at_+unD bs at_<bs.length then at_+unD bs at_+1 else at_
theorem YS{bs:List Bool}{at_:Nat}(h:unD bs at_=i-at_+unC bs i (bs.length-i))(h1:at_<=i)(h2:i<bs.length)(hb:bit bs i=1):unV bs at_=i-at_/\unE bs at_=0/\unA bs at_=i+1:=by
 have e:bs.length-i=(bs.length-(i+1))+1:=mz
 rw[e,unC,Ae hb,Bj]at h;unfold unV unE unA;rw[h,Ae mz,Ae mz,Ae mz];exact⟨rfl,rfl,mz⟩
theorem aX{bs:List Bool}{at_:Nat}(h:unD bs at_=i-at_+unC bs i (bs.length-i))(h1:at_<=i)(h2:i<bs.length)(hb:bit bs i≠1):unD bs at_=i+1-at_+unC bs (i+1) (bs.length-(i+1)):=by
 have e:bs.length-i=(bs.length-(i+1))+1:=mz
 rw[e,unC,Ab hb]at h;omega
theorem Yz{bs:List Bool}{at_:Nat}(h:unD bs at_=i-at_+unC bs i (bs.length-i))(h1:at_<=i)(h2:i=bs.length):unV bs at_=0/\unE bs at_=1/\unA bs at_=at_:=by rw[h2,Gn,unC]at h;unfold unV unE unA;rw[Ab mz,Ab mz,Ab mz];exact⟨rfl,rfl,rfl⟩
theorem Zl(w:World)(lo g:Nat)(bs:List Bool)(at_:Nat)(hR:Rd w lo g bs at_):
 Calls prog 296 #[.pointer (some ⟨g,0,none⟩)] w fun e w'=>e= .returned (.tuple #[.int .i64 (unV bs at_:Nat), .int .i64 (unE bs at_)])/\Rd w' lo g bs (unA bs at_)/\Kept (fun x=>x≠g) w w':=by
 have HR:=hid hR;obtain⟨A,n,c,ls,h1,h2,h3,h4,h5,h6,h7⟩:=hR;have hl:bs.length=8*n:=by rw[h5,EC,h3]
 have hz:bs.length<=800000:=mz
 have J:at_<=bs.length:=mz
 have c0:=h1.ia 0;have c1:=h1.ia 1;have c2:=h1.ia 2;have f2:=h1.frozen 2;rw[<-hl]at c1;have DB:=hid (fun i hi=>SK w g g A n c i ls h3 h7 h4 (by omega:i<8*n) c0 h2.row);rw[<-h5,<-hl]at DB;have H1:Hid (unD bs at_=at_-at_+unC bs at_ (bs.length-at_)):=by show _=_;unfold unD;omega
 clear h1 h2 h3 h4 h5 h6 h7 hl c0;obtain⟨z,j⟩:=ii bs.length;rw[<-j]at c1 hz J DB;have HZ:=hid j;clear j;go_enter func296,ntmps296;go_wp2_with fail;go_loopw [4] (fun iv wr=>∃i:Nat,at_<=i/\i<=z/\iv= .int .i64 i/\Hid (wr=w)/\Hid (unD bs at_=i-at_+unC bs i (bs.length-i))) (fun iv _=>z-(intOf iv).toNat)
 case atStart=>exact⟨at_,Aq _,J,rfl,rfl,H1.out⟩
 case round=>
  obtain⟨i,y,Y,rfl,hw,HU⟩:=hrel;have hw:=hw.out;subst hw;clear H1;by_cases E:i<z
  ·have g1:=ic ((i:Int)<z);have U:=ic (i<z);have D:=hid (DB.out i E);by_cases hb:bit bs i=1
   ·have UU:=hid (YS HU.out y (by rw[<-HZ.out];exact E) hb);have Q:IntKind.i64.wrap ((i:Int)-(at_:Int))=((i-at_:Nat):Int):=nW;have N:Hid (Rd (wr.setCell ⟨g,2,none⟩ (.int .i64 ((i:Int)+1))) lo g bs (i+1)):=(by have h:=HR.out.moved (k:=i+1-at_) (by rw[<-HZ.out];omega);rw[show((at_:Int)+((i+1-at_:Nat):Int))=(i:Int)+1 by omega,show at_+(i+1-at_)=i+1 by omega]at h;exact h);rw[hb]at D;clear hb HU DB;go_wp2_with fail;refine D.out.mono ?_;rintro e w1 ⟨rfl,rfl⟩;go_wp2_with fail;go_ret2;rw[UU.out.1,UU.out.2.1,UU.out.2.2];exact⟨rfl,N.out,(Kept.refl _ _).set (fun h=>h rfl) _⟩
   ·have G:bit bs i=0:=(by have:=Ey bs i;omega);have M:=hid (aX HU.out y (by rw[<-HZ.out];exact E) hb);rw[G]at D;clear hb G HU;go_wp2_with fail;refine D.out.mono ?_;rintro e w1 ⟨rfl,rfl⟩;go_wp2_with fail;go_roundw
    case measure=>exact jo
    case rel=>go_light;exact⟨i+1,mz,mz,iu,trivial,M.out⟩
  ·obtain rfl:i=z:=by omega
   have g1:=ig ((i:Int)<i);have UU:=hid (Yz HU.out y HZ.out);clear HU DB;go_wp2_with fail;go_ret2;rw[UU.out.1,UU.out.2.1,UU.out.2.2];exact⟨rfl,HR.out,Kept.refl _ _⟩
end Huff
end Go.Proofs.YtfgdoknipbpfhaaGreatDoor
