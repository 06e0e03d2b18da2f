/- The walk of the reference's W.Put: a number's bits, one behind the oth -/
import Derived.Test.YtbgoibedicbkjaaGreatDoorZTwoOpens2
import Derived.Test.YtbgoibedicbkjaaGreatDoorZTwoOpens1
import Derived.Test.YtbgoibedicbkjaaGreatDoorZTwoOpens3
import Derived.Test.YtbgoibedicbkjaaGreatDoorZTwoOpens16
import Derived.Deep.RegionLaw
import Derived.Deep.AppendLies
import Derived.BigGuardPart
import Derived.BigRegion
import Derived.BigQuiet
import Derived.Deep.QuietTactic
import Derived.Laws.Bits64b
import Derived.Laws.BitsLemmas
namespace Go.Proofs.YtbgoibedicbkjaaGreatDoor end Go.Proofs.YtbgoibedicbkjaaGreatDoor open Go.Proofs.YtbgoibedicbkjaaGreatDoor
open Go.Lib (hid)
set_option maxHeartbeats 1000000
set_option maxRecDepth 100000
namespace Go.Proofs.YtbgoibedicbkjaaGreatDoor.Huff
open Go.RowKit Mem Canon Own
def b01(bs:List Bool):List Nat:=bs.map fun b=>if b then 1 else 0
theorem fjZ(bs:List Bool):(b01 bs).length=bs.length:=by simp[b01]
theorem grZ(bs:List Bool)(i:Nat):(b01 bs).getD i 0=bit bs i:=by
 unfold b01 bit
 rw[List.getD_eq_getElem?_getD,List.getD_eq_getElem?_getD,List.getElem?_map]
 cases bs[i]? <;>simp
theorem numL_snoc(k:IntKind)(l:List Nat)(x:Nat):cZ k (l++ [x])=cZ k l++ [.int k (x:Nat)]:=by simp[cZ]
end Go.Proofs.YtbgoibedicbkjaaGreatDoor.Huff
namespace Go.Proofs.YtbgoibedicbkjaaGreatDoor.Huff
open Go.RowKit Mem Canon Own
def zeZ(ls:List Nat)(l:Nat):List Nat:=if l=0 then []else symsOf ls l
theorem bvZ(ls:List Nat)(l:Nat):(zeZ ls l).length=cn ls l:=by
 unfold zeZ cn
 split
 ·rfl
 ·exact vtZ l ls
theorem hgZ{ls:List Nat}{k x:Nat}(hx:ls[k]? =some x)(h0:x≠0)(l:Nat):cn (ls.take (k+1)) l=cn (ls.take k) l+if x=l then 1 else 0:=by
 rw[qdZ hx]
 unfold cn
 split
 ·rename_i h;subst h;rw[if_neg h0]
 ·rw[eeZ]
theorem xjZ{ls:List Nat}{k:Nat}(hx:ls[k]? =some 0)(l:Nat):cn (ls.take (k+1)) l=cn (ls.take k) l:=by
 rw[qdZ hx]
 unfold cn
 split
 ·rfl
 ·rw[eeZ,if_neg (by omega)];rfl
theorem iqZ{ls:List Nat}{k x:Nat}(hx:ls[k]? =some x)(h0:x≠0)(l:Nat):zeZ (ls.take (k+1)) l=zeZ (ls.take k) l++if x=l then [k]else []:=by
 have hk:(ls.take k).length=k:=by
  have:=(List.getElem?_eq_some_iff.1 hx).1
  rw[List.length_take];omega
 rw[qdZ hx]
 unfold zeZ
 split
 ·rename_i h;subst h;rw[if_neg h0];rfl
 ·rw[qkZ,hk]
theorem jqZ{ls:List Nat}{k:Nat}(hx:ls[k]? =some 0)(l:Nat):zeZ (ls.take (k+1)) l=zeZ (ls.take k) l:=by
 rw[qdZ hx]
 unfold zeZ
 split
 ·rfl
 ·rw[qkZ,if_neg (by omega),List.append_nil]
def yjZ(ls:List Nat)(k l:Nat):Nat:=if cn (ls.take k) l=0 then 0 else fst ls l
def upd(sv:Nat->Value)(l:Nat)(v:Value):Nat->Value:=fun m=>if m=l then v else sv m
structure Cells (ls:List Nat) (k:Nat) (vl vc:Value) (sv:Nat->Value) (cs:Array Value):Prop where
 size:cs.size=50
 lens:cs[0]? =some vl
 codes:cs[1]? =some vc
 first:∀l,l<16->cs[2+l]? =some (.int .i64 (yjZ ls k l:Nat))
 many:∀l,l<16->cs[18+l]? =some (.int .i64 (cn (ls.take k) l:Nat))
 syms:∀l,l<16->cs[34+l]? =some (sv l)
theorem Cells.start(ls:List Nat)(vl vc:Value):Cells ls 0 vl vc (fun _=> .slice none 0 0)
 #[vl,vc, .int .i64 0, .int .i64 0, .int .i64 0, .int .i64 0, .int .i64 0, .int .i64 0, .int .i64 0, .int .i64 0, .int .i64 0, .int .i64 0, .int .i64 0, .int .i64 0, .int .i64 0, .int .i64 0, .int .i64 0, .int .i64 0,
  .int .i64 0, .int .i64 0, .int .i64 0, .int .i64 0, .int .i64 0, .int .i64 0, .int .i64 0, .int .i64 0, .int .i64 0, .int .i64 0, .int .i64 0, .int .i64 0, .int .i64 0, .int .i64 0, .int .i64 0, .int .i64 0,
  .slice none 0 0, .slice none 0 0, .slice none 0 0, .slice none 0 0, .slice none 0 0, .slice none 0 0, .slice none 0 0, .slice none 0 0, .slice none 0 0, .slice none 0 0, .slice none 0 0, .slice none 0 0, .slice none 0 0, .slice none 0 0, .slice none 0 0, .slice none 0 0]:=by
 have hc:∀l,cn (ls.take 0) l=0:=by intro l;simp[cn,hiZ]
 have hf:∀l,yjZ ls 0 l=0:=by intro l;unfold yjZ;rw[if_pos (hc l)]
 refine⟨rfl,rfl,rfl,fun l hl=> ?_,fun l hl=> ?_,fun l hl=> ?_⟩
 ·rw[hf]
  have:l=0∨l=1∨l=2∨l=3∨l=4∨l=5∨l=6∨l=7∨l=8∨l=9∨l=10∨l=11∨l=12∨l=13∨l=14∨l=15:=by omega
  rcases this with rfl|rfl|rfl|rfl|rfl|rfl|rfl|rfl|rfl|rfl|rfl|rfl|rfl|rfl|rfl|rfl<;>rfl
 ·rw[hc]
  have:l=0∨l=1∨l=2∨l=3∨l=4∨l=5∨l=6∨l=7∨l=8∨l=9∨l=10∨l=11∨l=12∨l=13∨l=14∨l=15:=by omega
  rcases this with rfl|rfl|rfl|rfl|rfl|rfl|rfl|rfl|rfl|rfl|rfl|rfl|rfl|rfl|rfl|rfl<;>rfl
 ·have:l=0∨l=1∨l=2∨l=3∨l=4∨l=5∨l=6∨l=7∨l=8∨l=9∨l=10∨l=11∨l=12∨l=13∨l=14∨l=15:=by omega
  rcases this with rfl|rfl|rfl|rfl|rfl|rfl|rfl|rfl|rfl|rfl|rfl|rfl|rfl|rfl|rfl|rfl<;>rfl
theorem Cells.skip{ls:List Nat}{k:Nat}{vl vc:Value}{sv:Nat->Value}{cs:Array Value}(h:Cells ls k vl vc sv cs)(hx:ls[k]? =some 0):Cells ls (k+1) vl vc sv cs:=by
 refine⟨h.size,h.lens,h.codes,fun l hl=> ?_,fun l hl=> ?_,h.syms⟩
 ·rw[h.first l hl];unfold yjZ;rw[xjZ hx]
 ·rw[h.many l hl,xjZ hx]
theorem Cells.next{ls:List Nat}{k x c:Nat}{vl vc v:Value}{sv:Nat->Value}{cs:Array Value}(h:Cells ls k vl vc sv cs)(hx:ls[k]? =some x)(h0:x≠0)(h15:x<=15)(hc:cn (ls.take k) x=c)(hne:c≠0):
 Cells ls (k+1) vl vc (upd sv x v) ((cs.setIfInBounds (18+x) (.int .i64 ((c+1:Nat):Int))).setIfInBounds (34+x) v):=by
 have hs:=h.size
 refine⟨by simpa using hs,?_,?_,fun l hl=> ?_,fun l hl=> ?_,fun l hl=> ?_⟩
 ·rw[Array.getElem?_setIfInBounds_ne (by omega),Array.getElem?_setIfInBounds_ne (by omega),h.lens]
 ·rw[Array.getElem?_setIfInBounds_ne (by omega),Array.getElem?_setIfInBounds_ne (by omega),h.codes]
 ·rw[Array.getElem?_setIfInBounds_ne (by omega),Array.getElem?_setIfInBounds_ne (by omega),h.first l hl]
  unfold yjZ
  rw[hgZ hx h0]
  by_cases e:x=l
  ·subst e;rw[if_neg (by omega),if_neg (by simp)]
  ·rw[if_neg e];rfl
 ·rw[Array.getElem?_setIfInBounds_ne (by omega),Array.getElem?_setIfInBounds,hgZ hx h0]
  by_cases e:x=l
  ·subst e;rw[if_pos rfl,if_pos (by omega),if_pos rfl,hc]
  ·rw[if_neg (by omega),if_neg e,h.many l hl];rfl
 ·rw[Array.getElem?_setIfInBounds]
  unfold upd
  by_cases e:x=l
  ·subst e;rw[if_pos rfl,if_pos (by simp;omega),if_pos rfl]
  ·rw[if_neg (by omega),if_neg (Ne.symm e),Array.getElem?_setIfInBounds_ne (by omega),h.syms l hl]
theorem Cells.fresh{ls:List Nat}{k x:Nat}{vl vc v:Value}{sv:Nat->Value}{cs:Array Value}(h:Cells ls k vl vc sv cs)(hx:ls[k]? =some x)(h0:x≠0)(h15:x<=15)(hc:cn (ls.take k) x=0):
 Cells ls (k+1) vl vc (upd sv x v) (((cs.setIfInBounds (2+x) (.int .i64 (code ls k:Nat))).setIfInBounds (18+x) (.int .i64 ((0+1:Nat):Int))).setIfInBounds (34+x) v):=by
 have hs:=h.size
 have hcode:code ls k=fst ls x:=by
  rw[oyZ hx h0]
  unfold cn at hc
  rw[if_neg h0]at hc
  omega
 refine⟨by simpa using hs,?_,?_,fun l hl=> ?_,fun l hl=> ?_,fun l hl=> ?_⟩
 ·rw[Array.getElem?_setIfInBounds_ne (by omega),Array.getElem?_setIfInBounds_ne (by omega),Array.getElem?_setIfInBounds_ne (by omega),h.lens]
 ·rw[Array.getElem?_setIfInBounds_ne (by omega),Array.getElem?_setIfInBounds_ne (by omega),Array.getElem?_setIfInBounds_ne (by omega),h.codes]
 ·rw[Array.getElem?_setIfInBounds_ne (by omega),Array.getElem?_setIfInBounds_ne (by omega),Array.getElem?_setIfInBounds]
  unfold yjZ
  rw[hgZ hx h0]
  by_cases e:x=l
  ·subst e;rw[if_pos rfl,if_pos (by omega),if_neg (by simp),hcode]
  ·rw[if_neg (by omega),h.first l hl,if_neg e];rfl
 ·rw[Array.getElem?_setIfInBounds_ne (by omega),Array.getElem?_setIfInBounds,hgZ hx h0]
  by_cases e:x=l
  ·subst e;rw[if_pos rfl,if_pos (by simp;omega),if_pos rfl,hc]
  ·rw[if_neg (by omega),if_neg e,Array.getElem?_setIfInBounds_ne (by omega),h.many l hl];rfl
 ·rw[Array.getElem?_setIfInBounds]
  unfold upd
  by_cases e:x=l
  ·subst e;rw[if_pos rfl,if_pos (by simp;omega),if_pos rfl]
  ·rw[if_neg (by omega),if_neg (Ne.symm e),Array.getElem?_setIfInBounds_ne (by omega),Array.getElem?_setIfInBounds_ne (by omega),h.syms l hl]
structure Rows (w:World) (base:Nat) (ls:List Nat) (k:Nat) (sv:Nat->Value):Prop where
 own:∀l,l<16->w.ownsRow base 3 1 (sv l) (cn (ls.take k) l) (cZ .i64 (zeZ (ls.take k) l))
 apart:∀l m x,l<16->m<16->l≠m->(sv l).ownBlock=some x->(sv m).ownBlock≠some x
theorem Rows.start(w:World)(base:Nat)(ls:List Nat):Rows w base ls 0 (fun _=> .slice none 0 0):=by
 refine⟨fun l hl=> ?_,fun l m x _ _ _ h=>by cases h⟩
 have h1:cn (ls.take 0) l=0:=by simp[cn,hiZ]
 have h2:zeZ (ls.take 0) l= []:=by unfold zeZ;split<;>rfl
 rw[h1,h2]
 exact World.ownsRow_nil _ _ _ _
theorem Rows.kept{w w':World}{base k:Nat}{ls:List Nat}{sv:Nat->Value}(h:Rows w base ls k sv)(hk:∀l x,l<16->(sv l).ownBlock=some x->w'.heap[x]? =w.heap[x]?):Rows w' base ls k sv:=
 ⟨fun l hl=>eZ (h.own l hl) (fun x hx=>hk l x hl hx),h.apart⟩
theorem Rows.alloc{w:World}{base k:Nat}{ls:List Nat}{sv:Nat->Value}(h:Rows w base ls k sv)(o:Obj):Rows (w.alloc o) base ls k sv:=⟨fun l hl=>(h.own l hl).alloc o,h.apart⟩
theorem Rows.drew{w:World}{base k:Nat}{ls:List Nat}{sv:Nat->Value}(h:Rows w base ls k sv):Rows w.drew base ls k sv:=⟨h.own,h.apart⟩
theorem Rows.set{w:World}{base k g:Nat}{ls:List Nat}{sv:Nat->Value}{t:TypeId}{cs:Array Value}(h:Rows w base ls k sv)(hg:Blk w g t cs)(ht:3≠t)(i:Nat)(u:Value):Rows (w.setCell ⟨g,i,none⟩ u) base ls k sv:=
 h.kept fun l x hl hx=>Below.heap_setCell w _ u x (fun e=>jZ (h.own l hl) hg ht (by rw[hx,e]))
theorem Rows.skip{w:World}{base k:Nat}{ls:List Nat}{sv:Nat->Value}(h:Rows w base ls k sv)(hx:ls[k]? =some 0):Rows w base ls (k+1) sv:=
 ⟨fun l hl=>by rw[xjZ hx,jqZ hx];exact h.own l hl,h.apart⟩
theorem Rows.push{w w3:World}{base k x c g3 cap:Nat}{ls:List Nat}{sv:Nat->Value}(h:Rows w base ls k sv)(hx:ls[k]? =some x)(h0:x≠0)(h15:x<=15)(hc:cn (ls.take k) x=c)
 (hown:w3.ownsRow base 3 1 (.slice (some ⟨g3,0,none⟩) (c+1) cap) (c+1) (cZ .i64 (zeZ (ls.take k) x)++ [.int .i64 (k:Nat)]))(hg:w.grownBy w3 (sv x).ownBlock)(hat:(sv x).ownBlock=some g3∨g3=w.heap.size):
 Rows w3 base ls (k+1) (upd sv x (.slice (some ⟨g3,0,none⟩) (c+1) cap)):=by
 refine⟨fun l hl=> ?_,fun a b y ha hb hab hy=> ?_⟩
 ·rw[hgZ hx h0,iqZ hx h0]
  unfold upd
  by_cases e:l=x
  ·subst e
   rw[if_pos rfl,if_pos rfl,if_pos rfl,hc]
   simpa[cZ]using hown
  ·rw[if_neg e,if_neg (Ne.symm e),if_neg (Ne.symm e),List.append_nil]
   refine(h.own l hl).kept hg ?_
   cases hb:(sv l).ownBlock with
   |none=>exact .inl rfl
   |some y=>exact .inr (fun e2=>h.apart l x y hl (by omega) e hb e2.symm)
 ·unfold upd at hy ⊢
  by_cases e1:a=x
  ·subst e1
   rw[if_pos rfl]at hy
   rw[if_neg (Ne.symm hab)]
   have hy:g3=y:=by simpa[Value.ownBlock]using hy
   subst hy
   rcases hat with h1|h1
   ·exact h.apart a b g3 ha hb hab h1
   ·intro h2
    have:=(World.ownsRow.lt (h.own b hb) g3 h2).2
    omega
  ·rw[if_neg e1]at hy
   by_cases e2:b=x
   ·subst e2
    rw[if_pos rfl]
    intro h2
    have h2:g3=y:=by simpa[Value.ownBlock]using h2
    subst h2
    rcases hat with h1|h1
    ·exact h.apart a b g3 ha hb hab hy h1
    ·have:=(World.ownsRow.lt (h.own a ha) g3 hy).2
     omega
   ·rw[if_neg e2]
    exact h.apart a b y ha hb hab hy
end Go.Proofs.YtbgoibedicbkjaaGreatDoor.Huff
namespace Go.Proofs.YtbgoibedicbkjaaGreatDoor.Huff
open Go.RowKit Mem Canon Own
def RowIn(w:World)(lo B:Nat)(A:Option Addr)(n s:Nat)(f:Nat->Nat->Value):Prop:=
 0<n->∃b off,A=some ⟨b,off,none⟩/\(lo<=b/\b<B)/\∀i j,i<n->j<s->w.cell? ⟨b,off+(i*s+j),none⟩=some (f i j)
section
variable {w w':World} {lo lo' B B' n s:Nat} {A:Option Addr} {f g:Nat->Nat->Value}
theorem RowIn.row(h:RowIn w lo B A n s f):Row w B A n s f:=fun hn=>by
 obtain⟨b,off,e,hb,hc⟩:=h hn
 exact⟨b,off,e,hb.2,hc⟩
theorem RowIn.keep(h:RowIn w lo B A n s f)(hk:∀p:Addr,lo<=p.block->p.block<B->w'.cell? p=w.cell? p):RowIn w' lo B A n s f:=fun hn=>by
 obtain⟨b,off,e,hb,hc⟩:=h hn
 exact⟨b,off,e,hb,fun i j hi hj=>(hk _ hb.1 hb.2).trans (hc i j hi hj)⟩
theorem RowIn.mono(h:RowIn w lo B A n s f)(hl:lo'<=lo)(hB:B<=B'):RowIn w lo' B' A n s f:=fun hn=>by
 obtain⟨b,off,e,hb,hc⟩:=h hn
 exact⟨b,off,e,⟨by omega,by omega⟩,hc⟩
theorem RowIn.of_own{base:Nat}{e:TypeId}{v:Value}{xs:List Value}{c:Nat}(h:w.ownsRow base e s v n xs)(hv:v= .slice A n c)(hf:∀i j,i<n->j<s->xs[i*s+j]? =some (f i j)):RowIn w base w.heap.size A n s f:=fun hn=>by
 rcases h.2 with ⟨_,h0⟩|⟨g,cap,cur,hv',hb,hh,hnc,_,hcs,htake⟩
 ·omega
 ·rw[hv]at hv'
  injection hv' with e1 e2 e3
  refine⟨g,0,e1,⟨hb,Blk.lt hh⟩,fun i j hi hj=> ?_⟩
  rw[Nat.zero_add,Blk.cell hh]
  have:=hf i j hi hj
  rw[<-htake,List.getElem?_take]at this
  split at this
  ·simpa using this
  ·cases this
theorem RowIn.of_blk{t:TypeId}{cs:Array Value}{b:Nat}(h:Blk w b t cs)(hl:lo<=b)(hB:b<B)(hf:∀i j,i<n->j<s->cs[i*s+j]? =some (f i j)):RowIn w lo B (some ⟨b,0,none⟩) n s f:=
 fun _=>⟨b,0,rfl,⟨hl,hB⟩,fun i j hi hj=>by rw[Nat.zero_add,h.cell];exact hf i j hi hj⟩
end
theorem numL_get{k:IntKind}{ls:List Nat}{i:Nat}(h:i<ls.length):(cZ k ls)[i*1+0]? =some (mZ k ls i 0):=by
 simp[cZ,mZ,List.getD_eq_getElem?_getD,h]
structure Coder (w:World) (lo B g:Nat) (ls:List Nat):Prop where
 ge:lo<=g
 lt:g<B
 free:∀i,w.frozen? ⟨g,i,none⟩=false
 lens:∃A c,w.cell? ⟨g,0,none⟩=some (.slice A ls.length c)/\RowIn w lo B A ls.length 1 (mZ .u8 ls)
 codes:∃A c,w.cell? ⟨g,1,none⟩=some (.slice A ls.length c)/\RowIn w lo B A ls.length 1 (fun i _=> .int .u16 (wdZ ls i:Nat))
 first:∀l,l<16->w.cell? ⟨g,2+l,none⟩=some (.int .i64 (yjZ ls ls.length l:Nat))
 many:∀l,l<16->w.cell? ⟨g,18+l,none⟩=some (.int .i64 (cn ls l:Nat))
 syms:∀l,l<16->∃A c,w.cell? ⟨g,34+l,none⟩=some (.slice A (cn ls l) c)/\RowIn w lo B A (cn ls l) 1 (mZ .i64 (zeZ ls l))
theorem kgZb{w w2 wr:World}{lo g gc n c2:Nat}{ls:List Nat}{A2:Option Addr}{sv:Nat->Value}{cs arr:Array Value}(hn:ls.length=n)(hlo:lo<=w.heap.size)(z1:w.heap.size<=g)(hg:g=w2.heap.size)
 (blk:Blk wr g 309 cs)(hC:Cells ls n (.slice A2 n c2) (.slice (some ⟨gc,0,none⟩) n n) sv cs)(hR:Rows wr (g+1) ls n sv)(rbel:Below g w2 wr)
 (hown2:w2.ownsRow w.heap.size 5 1 (.slice A2 n c2) n (cZ .u8 ls))(bc2:Blk w2 gc 47 arr)(hgc:lo<=gc)(hW:Wds ls n n arr):Coder wr lo wr.heap.size g ls:=by
 subst hn hg
 have rz:=rbel.size
 have htk:ls.take ls.length=ls:=List.take_of_length_le (Nat.le_refl _)
 refine⟨by omega,blk.lt,blk.frozen,⟨A2,c2,(blk.cell 0).trans hC.lens,?_⟩,⟨some ⟨gc,0,none⟩,ls.length,(blk.cell 1).trans hC.codes,?_⟩,fun l hl=>(blk.cell _).trans (hC.first l hl),fun l hl=> ?_,fun l hl=> ?_⟩
 ·have:=RowIn.of_own (f:=mZ .u8 ls) hown2 rfl (fun i j hi hj=>by have e0:j=0:=(by omega);subst e0;exact numL_get hi)
  exact(this.keep (fun p _ h2=>rbel.cell h2)).mono hlo rz
 ·have:=RowIn.of_blk (n:=ls.length) (s:=1) (lo:=lo) (B:=w2.heap.size) (f:=fun i _=> .int .u16 (wdZ ls i:Nat)) bc2 hgc bc2.lt (fun i j hi hj=>by
   obtain rfl:j=0:=by omega
   rw[Nat.mul_one,Nat.add_zero,hW.2 i hi,if_pos hi])
  exact(this.keep (fun p _ h2=>rbel.cell h2)).mono (Nat.le_refl _) rz
 ·have:=hC.many l hl
  rw[htk]at this
  exact(blk.cell _).trans this
 ·have h1:=hR.own l hl
  rw[htk]at h1
  obtain⟨A,c,e⟩:=bZ h1
  have h2:=hC.syms l hl
  rw[e]at h2
  refine⟨A,c,(blk.cell _).trans h2,?_⟩
  exact(RowIn.of_own (f:=mZ .i64 (zeZ ls l)) h1 e (fun i j hi hj=>by have e0:j=0:=(by omega);subst e0;exact numL_get (by rw[bvZ];exact hi))).mono (by omega) (Nat.le_refl _)
end Go.Proofs.YtbgoibedicbkjaaGreatDoor.Huff
namespace Go.Proofs.YtbgoibedicbkjaaGreatDoor.Huff
open Go.RowKit Mem Canon Own
theorem lgZb:(Tryz.prog.info? 3).map (fun i=>(i.zero,i.size,i.bytes))=some (some (.int .i64 0),1,8):=by kernel_rfl
def sjZb(ls:List Nat)(w:World)(e:Ending)(w':World):Prop:=
 ∃g,e= .returned (.tuple #[.pointer (some ⟨g,0,none⟩), .int .i64 0])/\Coder w' w.heap.size w'.heap.size g ls/\Below w.heap.size w w'
theorem new_any(w:World)(A:Option Addr)(n c:Nat)(ls:List Nat)(hn:ls.length=n)(hok:okB ls=true)(hnil:A=none->n=0/\c=0)(ha:Row w w.heap.size A n 1 (mZ .u8 ls)):
 Calls Tryz.prog 224 #[.slice A n c] w (sjZb ls w):=by
 obtain⟨hlen,hsm,_⟩:=dpZ hok
 rw[hn]at hlen
 have C1:=hid (gdZb w A n c ls hn hok ha)
 have C2:=hid (fun wx (h:Row wx wx.heap.size A n 1 (mZ .u8 ls))=>mgZ wx A n c ls hn (by omega) hnil h)
 have HN:=hid hn
 have HSM:=hid hsm
 have HOK:=hid hok
 obtain⟨j0,hj0,hy0,hy1,hy2⟩:=info_parts lgZb
 clear hn hok hsm hnil
 go_enter Tryz.func224,Tryz.ntmps224
 go_wp2_with fail
 refine C1.out.mono ?_
 rintro e w1 ⟨gc,arr,rfl,bc,hw,hgc,hb1⟩
 have z1:=hb1.size
 go_wp2_with fail
 refine(C2.out _ ((ha.below hb1).mono z1)).mono ?_
 rintro e w2 ⟨vl,rfl,hown2,hb2⟩
 have z2:=hb2.size
 have bc2:=bc.step hb2
 have hbel2:Below w.heap.size w w2:=iZ hb2 z1 hb1
 have HW:=hid hw
 have hgc2:=bc2.lt
 have ha2:=(ha.below hbel2).mono hbel2.size
 clear hw bc C1 C2
 obtain⟨A2,c2,rfl⟩:=bZ hown2
 go_wp2_with fail
 go_loopw [25] (fun i wr=>∃ (k:Nat) (sv:Nat->Value) (cs:Array Value),k<=n/\i= .int .i64 k/\Blk wr w2.heap.size 309 cs/\Hid (Cells ls k (.slice A2 n c2) (.slice (some ⟨gc,0,none⟩) n n) sv cs)/\Hid (Rows wr (w2.heap.size+1) ls k sv)/\Below w2.heap.size w2 wr) (fun i _=>n-(intOf i).toNat)
 case atStart=>exact⟨0,_,_,by omega,rfl,Blk.made _ _ _,Cells.start ls _ _,Rows.start _ _ _,aZ (Below.refl _ _)⟩
 case round=>
  obtain⟨k,sv,cs,hk,rfl,blk,hC,hR,rbel⟩:=hrel
  have rz:=rbel.size
  by_cases hlt:k<n
  ·obtain⟨b,off,x,rfl,hbb,hx,c0⟩:=kbZ (ha2.below rbel) HN.out hlt
   have HX:=hid hx
   have hx15:=HSM.out x (List.mem_of_getElem? hx)
   have x0:(0:Int)<=(k:Int):=by omega
   have x1:(k:Int)<(n:Int):=by omega
   clear hx
   by_cases hx0:x=0
   ·subst hx0
    go_wp2_with fail
    go_roundw
    case rel=>
     go_light
     exact⟨k+1,sv,cs,by omega,by go_num,blk,hC.out.skip HX.out,hR.out.skip HX.out,rbel⟩
    case measure=>go_light;simp[intOf];omega
   ·have hcn:=onZ (ls.take k) x
    rw[List.length_take]at hcn
    have xp:0<x:=by omega
    have y0:(0:Int)<=(x:Int):=by omega
    have y1:(x:Int)<16:=by omega
    have m0:=blk.cell (18+x)
    rw[hC.out.many x (by omega)]at m0
    obtain⟨q,hq⟩:∃q,q=cn (ls.take k) x:=⟨_,rfl⟩
    rw[<-hq]at m0 hcn
    have HQ:=hid hq
    clear hq
    by_cases hq0:q=0
    ·have hqt:((q:Int)==0)=true:=by simp;omega
     have HQ0:=hid hq0
     clear hq0
     have d0:=(bc2.below rbel hgc2).cell k
     rw[HW.out.2 k hlt,if_pos hlt]at d0
     have f0:=blk.frozen (2+x)
     have f1:=blk.cell (2+x)
     rw[hC.out.first x (by omega)]at f1
     have hcl:=jjZb HOK.out HX.out hx0
     have hcl2:code ls k<65536:=Nat.lt_of_lt_of_le hcl (by have:2 ^ x<=2 ^ 15:=Nat.pow_le_pow_right (by omega) hx15;omega)
     have hv:wdZ ls k=code ls k:=Nat.mod_eq_of_lt hcl2
     have hcells:=fun v=>hC.out.fresh (v:=v) HX.out hx0 hx15 (HQ.out.symm.trans HQ0.out)
     rw[hv]at d0
     generalize code ls k=v at *
     have HCS:=hid hcells
     clear hv hcells hcl
     go_upto_region 10 with fail
     go_region
     have blkA:=(blk.set (2+x) (.int .i64 (v:Nat))).drew
     have HCS2:Hid (∀v',Cells ls (k+1) (.slice A2 n c2) (.slice (some ⟨gc,0,none⟩) n n) (upd sv x v') (((cs.setIfInBounds (2+x) (.int .i64 (v:Nat))).setIfInBounds (18+x) (.int .i64 ((q:Int)+1))).setIfInBounds (34+x) v')):=by
      rw[HQ0.out];exact HCS.out
     clear HCS
     have mcell:(cs.setIfInBounds (2+x) (.int .i64 (v:Nat)))[18+x]? =some (.int .i64 ((q:Nat):Int)):=by
      rw[Array.getElem?_setIfInBounds_ne (by omega),hC.out.many x (by omega),<-HQ.out]
     have scell:(cs.setIfInBounds (2+x) (.int .i64 (v:Nat)))[34+x]? =some (sv x):=by
      rw[Array.getElem?_setIfInBounds_ne (by omega),hC.out.syms x (by omega)]
     have RA:=hid ((hR.out.set blk (by decide) (2+x) (.int .i64 (v:Nat))).drew)
     have belA:=(fZ (p:=⟨w2.heap.size,2+x,none⟩) (u:= .int .i64 (v:Nat)) (Nat.le_refl _) rbel).drew
     have zA:=belA.size
     clear m0 f0 f1 d0 c0 blk rbel rz
     generalize cs.setIfInBounds (2+x) (.int .i64 (v:Nat))=csA at *
     generalize (wr.setCell ⟨w2.heap.size,2+x,none⟩ (.int .i64 (v:Nat))).drew=wA at *
     have mA:=blkA.cell (18+x)
     rw[mcell]at mA
     have fA:=blkA.frozen (18+x)
     have s1:IntKind.i64.wrap ((q:Int)+1)=(q:Int)+1:=IntWalk.i64_in _ (by omega)
     go_upto_region 11 with fail
     go_region
     clear s1 mA fA
     have blkB:=(blkA.set (18+x) (.int .i64 ((q:Int)+1))).drew
     have RB:=hid ((RA.out.set blkA (by decide) (18+x) (.int .i64 ((q:Int)+1))).drew)
     have belB:=(fZ (p:=⟨w2.heap.size,18+x,none⟩) (u:= .int .i64 ((q:Int)+1)) (Nat.le_refl _) belA).drew
     have zB:=belB.size
     have sB:=blkB.cell (34+x)
     rw[Array.getElem?_setIfInBounds_ne (by omega),scell]at sB
     have fB:=blkB.frozen (34+x)
     have hown:=RB.out.own x (by omega)
     rw[<-HQ.out]at hown
     have hne:=jZ hown blkB (by decide)
     obtain⟨AS,cS,hsv⟩:=bZ hown
     have HSV:=hid hsv
     rw[hsv]at sB hown hne
     clear mcell scell blkA RA belA zA hsv
     generalize (wA.setCell ⟨w2.heap.size,18+x,none⟩ (.int .i64 ((q:Int)+1))).drew=wB at *
     have hgl:=blkB.lt
     have hne2:some w2.heap.size≠(Value.slice AS q cS).ownBlock:=Ne.symm hne
     go_upto_region 12 with fail
     go_region_law((refine step_append_lies _ (by rfl) _ _ _ (by rfl) (w2.heap.size+1) 3 j0 _ 1 8 Tryz.underlying30 hj0 hy0 hy1 hy2 rfl (by omega) (.slice AS q cS) q (cZ .i64 (zeZ (ls.take k) x)) (by rfl) ((hown.alloc _).drew) ⟨wB.heap.size,0,none⟩ 1 1 [.int .i64 (k:Nat)] (by rfl) (by rfl) (World.news_of_block (cs:=#[.int .i64 (k:Nat)]) (t:=3) (fr:=(0,0)) (heap_alloc_new wB _)) (by intro u hu;simp at hu;subst hu;rfl) (by omega) (by unfold maxLen;omega) (by omega) (by simp;omega) (wB.heap.size+1) (by simp) ?_;intro g3 cap3 w3 hown3 hgrow hat hlt3;have gb:w3.heap[w2.heap.size]? =wB.heap[w2.heap.size]? :=(hgrow.block w2.heap.size (by simp;omega) hne2).trans (Below.heap_alloc wB _ w2.heap.size hgl);have p3:=(World.cell?_of_block (a:=⟨w2.heap.size,34+x,none⟩) gb).trans sB;have p4:=(World.frozen?_of_block (a:=⟨w2.heap.size,34+x,none⟩) gb).trans fB))
     all_goals
      go_wp2_with fail
      go_roundw
      case measure=>go_light;simp[intOf];omega
      case rel=>
       go_light
       have blk3:Blk w3 w2.heap.size 309 _:=gb.trans blkB
       have hR3:=Rows.push ((RB.out.alloc _).drew) HX.out hx0 hx15 HQ.out.symm hown3 (by rw[HSV.out];exact hgrow) (by rw[HSV.out];simpa using hat)
       refine⟨k+1,_,_,by omega,by go_num,blk3.set _ _,HCS2.out _,hR3.set blk3 (by decide) _ _,fZ (p:=⟨w2.heap.size,34+x,none⟩) (Nat.le_refl _) (((gZ zB belB).drew).grown hgrow (by simp;omega) (fun y hy=> ?_))⟩
       have:=(World.ownsRow.lt hown y hy).1
       omega
    ·have hqf:((q:Int)==0)=false:=by simp;omega
     have hcells:=fun v=>hC.out.next (v:=v) HX.out hx0 hx15 HQ.out.symm hq0
     have HCS2:Hid (∀v',Cells ls (k+1) (.slice A2 n c2) (.slice (some ⟨gc,0,none⟩) n n) (upd sv x v') ((cs.setIfInBounds (18+x) (.int .i64 ((q:Int)+1))).setIfInBounds (34+x) v')):=hcells
     have mcell:cs[18+x]? =some (.int .i64 ((q:Nat):Int)):=by rw[hC.out.many x (by omega),<-HQ.out]
     have scell:=hC.out.syms x (by omega)
     have RA:=hR
     have belA:=rbel
     have zA:=rz
     have blkA:=blk
     obtain⟨wA,rfl⟩:∃wA:World,wA=wr:=⟨_,rfl⟩
     clear blk rbel rz hcells hq0
     have mA:=blkA.cell (18+x)
     rw[mcell]at mA
     have fA:=blkA.frozen (18+x)
     have s1:IntKind.i64.wrap ((q:Int)+1)=(q:Int)+1:=IntWalk.i64_in _ (by omega)
     go_upto_region 11 with fail
     go_region
     clear s1 mA fA
     have blkB:=(blkA.set (18+x) (.int .i64 ((q:Int)+1))).drew
     have RB:=hid ((RA.out.set blkA (by decide) (18+x) (.int .i64 ((q:Int)+1))).drew)
     have belB:=(fZ (p:=⟨w2.heap.size,18+x,none⟩) (u:= .int .i64 ((q:Int)+1)) (Nat.le_refl _) belA).drew
     have zB:=belB.size
     have sB:=blkB.cell (34+x)
     rw[Array.getElem?_setIfInBounds_ne (by omega),scell]at sB
     have fB:=blkB.frozen (34+x)
     have hown:=RB.out.own x (by omega)
     rw[<-HQ.out]at hown
     have hne:=jZ hown blkB (by decide)
     obtain⟨AS,cS,hsv⟩:=bZ hown
     have HSV:=hid hsv
     rw[hsv]at sB hown hne
     clear mcell scell blkA RA belA zA hsv
     generalize (wA.setCell ⟨w2.heap.size,18+x,none⟩ (.int .i64 ((q:Int)+1))).drew=wB at *
     have hgl:=blkB.lt
     have hne2:some w2.heap.size≠(Value.slice AS q cS).ownBlock:=Ne.symm hne
     go_upto_region 12 with fail
     go_region_law((refine step_append_lies _ (by rfl) _ _ _ (by rfl) (w2.heap.size+1) 3 j0 _ 1 8 Tryz.underlying30 hj0 hy0 hy1 hy2 rfl (by omega) (.slice AS q cS) q (cZ .i64 (zeZ (ls.take k) x)) (by rfl) ((hown.alloc _).drew) ⟨wB.heap.size,0,none⟩ 1 1 [.int .i64 (k:Nat)] (by rfl) (by rfl) (World.news_of_block (cs:=#[.int .i64 (k:Nat)]) (t:=3) (fr:=(0,0)) (heap_alloc_new wB _)) (by intro u hu;simp at hu;subst hu;rfl) (by omega) (by unfold maxLen;omega) (by omega) (by simp;omega) (wB.heap.size+1) (by simp) ?_;intro g3 cap3 w3 hown3 hgrow hat hlt3;have gb:w3.heap[w2.heap.size]? =wB.heap[w2.heap.size]? :=(hgrow.block w2.heap.size (by simp;omega) hne2).trans (Below.heap_alloc wB _ w2.heap.size hgl);have p3:=(World.cell?_of_block (a:=⟨w2.heap.size,34+x,none⟩) gb).trans sB;have p4:=(World.frozen?_of_block (a:=⟨w2.heap.size,34+x,none⟩) gb).trans fB))
     all_goals
      go_wp2_with fail
      go_roundw
      case measure=>go_light;simp[intOf];omega
      case rel=>
       go_light
       have blk3:Blk w3 w2.heap.size 309 _:=gb.trans blkB
       have hR3:=Rows.push ((RB.out.alloc _).drew) HX.out hx0 hx15 HQ.out.symm hown3 (by rw[HSV.out];exact hgrow) (by rw[HSV.out];simpa using hat)
       refine⟨k+1,_,_,by omega,by go_num,blk3.set _ _,HCS2.out _,hR3.set blk3 (by decide) _ _,fZ (p:=⟨w2.heap.size,34+x,none⟩) (Nat.le_refl _) (((gZ zB belB).drew).grown hgrow (by simp;omega) (fun y hy=> ?_))⟩
       have:=(World.ownsRow.lt hown y hy).1
       omega
  ·obtain rfl:k=n:=by omega
   go_wp2_with fail
   go_ret2
   exact⟨w2.heap.size,rfl,kgZb HN.out z1 z2 rfl blk hC.out hR.out rbel hown2 bc2 hgc HW.out,hbel2.trans (rbel.mono hbel2.size)⟩
end Go.Proofs.YtbgoibedicbkjaaGreatDoor.Huff
namespace Go.Proofs.YtbgoibedicbkjaaGreatDoor.Huff
open Go.RowKit Mem Canon Own
end Go.Proofs.YtbgoibedicbkjaaGreatDoor.Huff
namespace Go.Proofs.YtbgoibedicbkjaaGreatDoor.Huff
open Go.RowKit Mem Canon Own
structure RCo (w:World) (lo B:Nat) (vl vc:Value) (ls:List Nat):Prop where
 lens:∃A c,vl= .slice A ls.length c/\RowIn w lo B A ls.length 1 (mZ .u8 ls)
 codes:∃A c,vc= .slice A ls.length c/\RowIn w lo B A ls.length 1 (fun i _=> .int .u16 (wdZ ls i:Nat))
def mgZb(ls:List Nat)(w:World)(e:Ending)(w':World):Prop:=
 ∃vl vc,e= .returned (.tuple #[.agg #[vl,vc], .int .i64 0])/\RCo w' w.heap.size w'.heap.size vl vc ls/\Below w.heap.size w w'
theorem mxZ:(Tryz.prog.info? 245).map (·.size)=some 2:=by kernel_rfl
theorem rnew_any(w:World)(A:Option Addr)(n c:Nat)(ls:List Nat)(hn:ls.length=n)(hok:okB ls=true)(hnil:A=none->n=0/\c=0)(ha:Row w w.heap.size A n 1 (mZ .u8 ls)):
 Calls Tryz.prog 181 #[.slice A n c] w (mgZb ls w):=by
 obtain⟨j0,hj0,hy0,hy1,hy2⟩:=info_parts acZ
 obtain⟨hlen,_,_⟩:=dpZ hok
 rw[hn]at hlen
 have C:=hid (fun wx (h:Row wx wx.heap.size A n 1 (mZ .u8 ls))=>ovZ wx A n c ls hn hok h)
 have HN:=hid hn
 have HNIL:=hid hnil
 clear hn hok hnil
 go_enter Tryz.func181,Tryz.ntmps181
 go_wp2_with fail
 refine(C.out _ ((ha.alloc (Nat.le_refl _) _).mono (by simp))).mono ?_
 rintro e w1 ⟨vc,rfl,hown,hb1⟩
 obtain⟨AC,cC,rfl⟩:=bZ hown
 have z1:=hb1.size
 simp at z1
 have blk1:Blk w1 w.heap.size 245 _:=(Blk.made w _ _).step hb1
 have hgl:=blk1.lt
 have hbel1:Below w.heap.size w w1:=(aZ (Below.refl _ _)).trans (hb1.mono (by simp))
 have hsrc0:=ugZ (c:=c) (ha.below hbel1) HN.out HNIL.out
 have hsrc:Src (w1.alloc (.cells #[] 5)) A n c 1 (cZ .u8 ls):=by
  refine⟨hsrc0.1,?_⟩
  rcases hsrc0.2 with h|⟨ad,h1,h2⟩
  ·exact .inl h
  ·refine .inr ⟨ad,h1,fun j u hu=> ?_⟩
   have hc:=h2 j u hu
   exact(World.cell?_of_block (Below.heap_alloc w1 _ _ (World.block_lt_of_cell? _ _ hc))).trans hc
 have hown0:(w1.alloc (.cells #[] 5)).ownsRow w1.heap.size 5 1 (.slice (some ⟨w1.heap.size,0,none⟩) 0 0) 0 []:=World.ownsRow_made w1 #[] 0 (Nat.le_refl _) (by unfold maxLen;omega) rfl
 have c0:=blk1.cell 0
 have c1:=blk1.cell 1
 have f0:=blk1.frozen 0
 have f1:=blk1.frozen 1
 simp only[List.getElem?_toArray,List.getElem?_cons_zero,List.getElem?_cons_succ]at c0 c1
 have HSRC:=hid hsrc
 have HB:=hid hbel1
 have HOC:=hid hown
 clear hsrc0 hsrc hbel1 ha C hb1 hown
 go_wp2_with(at_builtin;refine kZ rfl (.tmp 15) (.tmp 16) 22 rfl w1.heap.size 5 j0 _ 1 1 Tryz.underlying22 hj0 hy0 hy1 hy2 rfl (by decide) _ _ _ (by rfl) hown0 _ n _ (cZ .u8 ls) (by rfl) HSRC.out (wZ _ _) (by unfold maxLen;omega) (by omega) (by simp) ?_;intro v3 w3 hown3 hg3 hat3;obtain⟨A3,c3,rfl⟩:=bZ hown3;have gb:=(hg3.block w.heap.size (by simp;omega) (by simp[Value.ownBlock];omega)).trans (Below.heap_alloc w1 _ _ hgl);have p0:=(World.cell?_of_block (a:=⟨w.heap.size,0,none⟩) gb).trans c0;have p1:=(World.cell?_of_block (a:=⟨w.heap.size,1,none⟩) gb).trans c1;have q0:=(World.frozen?_of_block (a:=⟨w.heap.size,0,none⟩) gb).trans f0;have q1:=(World.frozen?_of_block (a:=⟨w.heap.size,1,none⟩) gb).trans f1)
 rw[Nat.zero_add,List.nil_append]at hown3
 have blk3:Blk w3 w.heap.size _ _:=gb.trans blk1
 have bel3:Below w1.heap.size w1 w3:=(aZ (Below.refl _ _)).grown hg3 (by simp) (fun k hk=>by simp[Value.ownBlock]at hk;omega)
 have z3:=bel3.size
 refine bodyPost_ret (Canon.results_cell_tmp rfl _ _ w.heap.size _ #[.slice A3 n c3, .slice AC n cC] _ (.int .i64 0) rfl rfl ((blk3.set 0 (.slice A3 n c3)).set 1 (.slice AC n cC)) Tryz.underlying245 rfl mxZ) rfl ⟨_,_,rfl,⟨⟨A3,c3,by rw[HN.out],?_⟩,⟨AC,cC,by rw[HN.out],?_⟩⟩,?_⟩
 ·have h:=RowIn.of_own (f:=mZ .u8 ls) (s:=1) hown3 rfl (fun i j hi hj=>by have e0:j=0:=(by omega);subst e0;exact numL_get (by rw[HN.out];exact hi))
  rw[HN.out]
  refine(h.keep fun p h1 _=>World.cell?_of_block ?_).mono (by omega) (by simp)
  exact(Below.heap_setCell _ _ _ _ (by simp;omega)).trans (Below.heap_setCell _ _ _ _ (by simp;omega))
 ·have h:=RowIn.of_own (f:=fun i _=> .int .u16 (wdZ ls i:Nat)) (s:=1) HOC.out rfl (fun i j hi hj=>by have e0:j=0:=(by omega);subst e0;simp[hi])
  rw[HN.out]
  refine(h.keep fun p h1 h2=>World.cell?_of_block ?_).mono (by simp) (by simp;omega)
  simp at h1
  exact((Below.heap_setCell _ _ _ _ (by simp;omega)).trans (Below.heap_setCell _ _ _ _ (by simp;omega))).trans (bel3.block _ h2)
 ·exact fZ (p:=⟨w.heap.size,1,none⟩) (Nat.le_refl _) (fZ (p:=⟨w.heap.size,0,none⟩) (Nat.le_refl _) (HB.out.trans (bel3.mono (by omega))))
end Go.Proofs.YtbgoibedicbkjaaGreatDoor.Huff
namespace Go.Proofs.YtbgoibedicbkjaaGreatDoor.Huff
open Go.RowKit Mem Canon Own
def Rd(w:World)(lo g:Nat)(bs:List Bool)(at_:Nat):Prop:=
 ∃ (A:Option Addr) (n c:Nat) (ls:List Nat),Blk w g 346 #[.slice A n c, .int .i64 ((8*n:Nat):Int), .int .i64 at_]/\RowIn w lo g A n 1 (mZ .u8 ls)/\ls.length=n/\(∀x∈ls,x<=255)/\bs=ubZ ls/\at_<=8*n/\n<=100000
theorem Rd.keep{w w':World}{lo g at_:Nat}{bs:List Bool}(h:Rd w lo g bs at_)(hk:∀b,lo<=b->b<=g->w'.heap[b]? =w.heap[b]?)(hlo:lo<=g):Rd w' lo g bs at_:=by
 obtain⟨A,n,c,ls,h1,h2,h3⟩:=h
 exact⟨A,n,c,ls,(hk g hlo (Nat.le_refl _)).trans h1,h2.keep (fun p ha hb=>World.cell?_of_block (hk p.block ha (by omega))),h3⟩
theorem Rd.drewN{w:World}{lo g at_:Nat}{bs:List Bool}(h:Rd w lo g bs at_)(q:Nat):Rd (w.drewN q) lo g bs at_:=h
theorem Rd.moved{w:World}{lo g at_ k:Nat}{bs:List Bool}(h:Rd w lo g bs at_)(hk:at_+k<=bs.length):Rd (w.setCell ⟨g,2,none⟩ (.int .i64 ((at_:Int)+(k:Int)))) lo g bs (at_+k):=by
 obtain⟨A,n,c,ls,h1,h2,h3,h4,h5,h6,h7⟩:=h
 refine⟨A,n,c,ls,?_,h2.keep (fun p _ hb=>World.cell?_of_block (Below.heap_setCell w _ _ _ (show p.block≠g by omega))),h3,h4,h5,?_,h7⟩
 ·have h:=h1.set 2 (.int .i64 ((at_:Int)+(k:Int)))
  simpa using h
 ·rw[h5,nbZ]at hk;omega
theorem Rd.lt{w:World}{lo g at_:Nat}{bs:List Bool}(h:Rd w lo g bs at_):g<w.heap.size:=by
 obtain⟨A,n,c,ls,h1,_⟩:=h
 exact h1.lt
theorem tjZb(y:Nat)(hy:y<18446744073709551616):bits .and .u64 (y:Int) 1=((y % 2:Nat):Int):=by
 have h:=bits_and_u64_nat y 1 hy (by omega)
 rw[Nat.and_one_is_mod]at h
 exact h
theorem ujZb(x y:Nat)(hx:x<9223372036854775808)(hy:y<=1):bits .or .u64 ((2*x:Nat):Int) (y:Int)=((2*x+y:Nat):Int):=by
 rw[bits_or_u64_nat _ _ (by omega) (by omega)]
 congr 1
 have h:=Nat.two_pow_add_eq_or_of_lt (b:=y) (i:=1) (by omega) x
 rw[show 2 ^ 1=2 from rfl]at h
 exact h.symm
theorem tyZ(w:World)(g B:Nat)(A:Option Addr)(n c i:Nat)(ls:List Nat)(hn:ls.length=n)(hN:n<=100000)(h8:∀x∈ls,x<=255)(hi:i<8*n)(hg:w.cell? ⟨g,0,none⟩=some (.slice A n c))(ha:Row w B A n 1 (mZ .u8 ls)):
 Calls Tryz.prog 266 #[.pointer (some ⟨g,0,none⟩), .int .i64 (i:Nat)] w fun e w'=>e= .returned (.int .u64 (bit (ubZ ls) i:Nat))/\w=w':=by
 have hv:=qtZ (ls:=ls) (i:=i) (by omega)
 obtain⟨b,off,x,rfl,hb,hx,d0⟩:=kbZ ha hn (show i / 8<n by omega)
 have hx255:=h8 x (List.mem_of_getElem? hx)
 have hxx:ls.getD (i / 8) 0=x:=by simp[List.getD_eq_getElem?_getD,hx]
 rw[hxx]at hv
 rw[hv]
 have x0:(0:Int)<=(i:Int) / 8:=by omega
 have x1:(i:Int) / 8<(n:Int):=by omega
 have x2:(0:Int)<=7-(i:Int) % 8:=by omega
 clear hv hxx hx h8 hn ha
 go_enter Tryz.func266,Tryz.ntmps266
 go_wp2_with fail
 go_ret
 refine⟨?_,rfl⟩
 have e:((x:Int) / 2 ^ (7-i % 8))=((x / 2 ^ (7-i % 8):Nat):Int):=by simp
 have hle:=Nat.div_le_self x (2 ^ (7-i % 8))
 show Ending.returned (.int .u64 (bits .and .u64 (IntKind.u64.wrap ((x:Int) / 2 ^ (7-i % 8))) 1))=_
 rw[e]
 generalize x / 2 ^ (7-i % 8)=y at *
 rw[show IntKind.u64.wrap (y:Int)=(y:Int) by rw[IntKind.wrap_u64];omega,tjZb y (by omega)]
theorem number_any(w:World)(g B:Nat)(A:Option Addr)(n c at_ m:Nat)(ls:List Nat)(hn:ls.length=n)(hN:n<=100000)(h8:∀x∈ls,x<=255)(hat:at_<=8*n)(hm:m<=64)(hg:w.cell? ⟨g,0,none⟩=some (.slice A n c))(hg1:w.cell? ⟨g,1,none⟩=some (.int .i64 ((8*n:Nat):Int)))(ha:Row w B A n 1 (mZ .u8 ls)):
 Calls Tryz.prog 267 #[.pointer (some ⟨g,0,none⟩), .int .i64 (at_:Nat), .int .i64 (m:Nat)] w fun e w'=>e= .returned (.int .u64 (wbZ (ubZ ls) at_ m:Nat))/\w=w':=by
 have C:=hid (fun i h=>tyZ w g B A n c i ls hn hN h8 h hg ha)
 have HL:Hid ((ubZ ls).length=8*n):=by show _=_;rw[nbZ,hn]
 generalize ubZ ls=bs at *
 generalize hz:8*n=z at *
 have hzb:z<=800000:=by omega
 clear hn h8 ha hz
 go_enter Tryz.func267,Tryz.ntmps267
 go_wp2_with fail
 go_loopw [7,8] (fun u j wr=>∃p x:Nat,at_<=p/\p<=at_+m/\j= .int .i64 (p:Nat)/\u= .int .u64 x/\Hid (x=wbZ bs at_ (p-at_))/\w=wr) (fun _ j _=>at_+m-(intOf j).toNat)
 case atStart=>exact⟨at_,0,by omega,by omega,rfl,rfl,by show 0=_;rw[Nat.sub_self];rfl,rfl⟩
 case round=>
  obtain⟨p,x,hp1,hp2,rfl,rfl,hx,rfl⟩:=hrel
  by_cases hlt:p<at_+m
  ·have hxl:=mjZ bs at_ (p-at_)
   rw[<-hx.out]at hxl
   have hx63:x<9223372036854775808:=Nat.lt_of_lt_of_le hxl (by have:2 ^ (p-at_)<=2 ^ 63:=Nat.pow_le_pow_right (by omega) (by omega);omega)
   have hstep:wbZ bs at_ (p+1-at_)=2*x+bit bs p:=by
    rw[show p+1-at_=(p-at_)+1 by omega,wbZ,<-hx.out,show at_+(p-at_)=p by omega]
   by_cases hpz:p<z
   ·have hbl:=reZ bs p
    have C2:=hid (C.out p hpz)
    generalize bit bs p=y at *
    have HS:=hid hstep
    clear hstep hx hxl
    go_wp2_with fail
    refine C2.out.mono ?_
    rintro e w1 ⟨rfl,rfl⟩
    go_wp2_with fail
    go_roundw
    case measure=>go_light;simp[intOf];omega
    case rel=>
     go_light
     have e:bits .or .u64 ((x:Int)*2) (y:Int)=((2*x+y:Nat):Int):=by
      rw[<-ujZb x y hx63 hbl]
      congr 1
      omega
     exact⟨p+1,2*x+y,by omega,by omega,by go_num,by rw[e],HS.out.symm,trivial⟩
   ·rw[peZ (by rw[HL.out];omega)]at hstep
    have HS:=hid hstep
    clear hstep hx hxl
    go_wp2_with fail
    go_roundw
    case measure=>go_light;simp[intOf];omega
    case rel=>
     go_light
     exact⟨p+1,2*x,by omega,by omega,by go_num,by go_num,HS.out.symm,trivial⟩
  ·obtain rfl:p=at_+m:=by omega
   go_wp2_with fail
   go_ret
   exact⟨by rw[hx.out,Nat.add_sub_cancel_left];rfl,rfl⟩
theorem left_any(w:World)(lo g:Nat)(bs:List Bool)(at_:Nat)(hR:Rd w lo g bs at_):
 Calls Tryz.prog 244 #[.pointer (some ⟨g,0,none⟩)] w fun e w'=>e= .returned (.int .i64 ((bs.length-at_:Nat):Int))/\∃q,w'=w.drewN q:=by
 obtain⟨A,n,c,ls,h1,h2,h3,h4,h5,h6,h7⟩:=hR
 have hl:bs.length=8*n:=by rw[h5,nbZ,h3]
 rw[hl]
 have c1:=h1.cell 1
 have c2:=h1.cell 2
 simp only[List.getElem?_toArray,List.getElem?_cons_zero,List.getElem?_cons_succ]at c1 c2
 have hz:8*n<=800000:=by omega
 generalize 8*n=z at *
 have s1:IntKind.i64.wrap ((z:Int)-(at_:Int))=((z-at_:Nat):Int):=by rw[IntWalk.i64_in _ (by omega)];omega
 clear h1 h2 h3 h4 h5 hl
 go_enter Tryz.func244,Tryz.ntmps244
 go_wp2_with fail
 go_quiet (fail)
 go_wp2_with fail
 go_ret
 exact⟨rfl,_,rfl⟩
theorem Rd.cellAt{w:World}{lo g at_:Nat}{bs:List Bool}(h:Rd w lo g bs at_):w.cell? ⟨g,2,none⟩=some (.int .i64 at_):=by
 obtain⟨A,n,c,ls,h1,_⟩:=h
 exact h1.cell 2
theorem ocZb(w:World)(lo g:Nat)(bs:List Bool)(at_ m:Nat)(hm:m<=64)(hR:Rd w lo g bs at_)(q:Nat):
 Calls Tryz.prog 267 #[.pointer (some ⟨g,0,none⟩), .int .i64 (at_:Nat), .int .i64 (m:Nat)] (w.drewN q) fun e w'=>e= .returned (.int .u64 (wbZ bs at_ m:Nat))/\w'=w.drewN q:=by
 obtain⟨A,n,c,ls,h1,h2,h3,h4,h5,h6,h7⟩:=hR
 have c0:=h1.cell 0
 have c1:=h1.cell 1
 have h:=(number_any (w.drewN q) g g A n c at_ m ls h3 h7 h4 h6 hm c0 c1 (h2.row.drewN q)).mono (fun e w' h=>And.intro h.1 h.2.symm)
 rw[<-h5]at h
 exact h
theorem wtZ(w:World)(A:Option Addr)(n c:Nat)(ls:List Nat)(hn:ls.length=n)(hle:n<=100000)(h8:∀x∈ls,x<=255)(hnil:A=none->n=0/\c=0)(ha:Row w w.heap.size A n 1 (mZ .u8 ls)):
 Calls Tryz.prog 241 #[.slice A n c] w fun e w'=>∃g,e= .returned (.pointer (some ⟨g,0,none⟩))/\Rd w' w.heap.size g (ubZ ls) 0/\w.heap.size<=g/\Below w.heap.size w w':=by
 have C:=hid (mgZ w A n c ls hn hle hnil ha)
 have HN:=hid hn
 have H8:=hid h8
 clear hn h8 hnil ha
 go_enter Tryz.func241,Tryz.ntmps241
 go_wp2_with fail
 refine C.out.mono ?_
 rintro e w1 ⟨v,rfl,hown,hb1⟩
 obtain⟨A1,c1,rfl⟩:=bZ hown
 have z1:=hb1.size
 have hrow:=RowIn.of_own (f:=mZ .u8 ls) (s:=1) hown rfl (fun i j hi hj=>by have e0:j=0:=(by omega);subst e0;exact numL_get (by rw[HN.out];exact hi))
 have HROW:=hid hrow
 clear hown hrow C
 go_wp2_with fail
 go_ret
 refine⟨_,rfl,⟨A1,n,c1,ls,?_,?_,HN.out,H8.out,rfl,by omega,hle⟩,z1,gZ z1 hb1⟩
 ·have h:=Blk.made w1 346 #[.slice A1 n c1, .int .i64 ((8*n:Nat):Int), .int .i64 ((0:Nat):Int)]
  simpa using h
 ·exact HROW.out.keep (fun p _ h=>World.cell?_alloc_lt (w:=w1) (a:=p) (o:=_) h)
end Go.Proofs.YtbgoibedicbkjaaGreatDoor.Huff
namespace Go.Proofs.YtbgoibedicbkjaaGreatDoor.Huff
open Go.RowKit Mem Canon Own
def meets(ls:List Nat)(y l k:Nat):Prop:=0<cn ls k/\y*2 ^ (k-l)<fst ls k+cn ls k/\fst ls k<y*2 ^ (k-l)+2 ^ (k-l)
instance (ls:List Nat) (y l k:Nat):Decidable (meets ls y l k):=by unfold meets;infer_instance
end Go.Proofs.YtbgoibedicbkjaaGreatDoor.Huff
namespace Go.Proofs.YtbgoibedicbkjaaGreatDoor.Huff
open Go.RowKit Mem Canon Own
end Go.Proofs.YtbgoibedicbkjaaGreatDoor.Huff
namespace Go.Proofs.YtbgoibedicbkjaaGreatDoor.Huff
open Go.RowKit Mem Canon Own
def RRd(w:World)(g hi:Nat)(bs:List Bool)(at_:Nat):Prop:=
 ∃ (A:Option Addr) (c:Nat),Blk w g 241 #[.slice A bs.length c, .int .i64 at_]/\RowIn w (g+1) hi A bs.length 1 (mZ .u8 (b01 bs))/\at_<=bs.length/\bs.length<=800000
theorem RRd.keep{w w':World}{g hi at_:Nat}{bs:List Bool}(h:RRd w g hi bs at_)(hk:∀b,g<=b->(b<hi∨b=g)->w'.heap[b]? =w.heap[b]?):RRd w' g hi bs at_:=by
 obtain⟨A,c,h1,h2,h3⟩:=h
 exact⟨A,c,(hk g (Nat.le_refl _) (.inr rfl)).trans h1,h2.keep (fun p ha hb=>World.cell?_of_block (hk p.block (by omega) (.inl hb))),h3⟩
theorem RRd.drewN{w:World}{g hi at_:Nat}{bs:List Bool}(h:RRd w g hi bs at_)(q:Nat):RRd (w.drewN q) g hi bs at_:=h
theorem RRd.moved{w:World}{g hi at_ k:Nat}{bs:List Bool}(h:RRd w g hi bs at_)(hk:at_+k<=bs.length):RRd (w.setCell ⟨g,1,none⟩ (.int .i64 ((at_:Int)+(k:Int)))) g hi bs (at_+k):=by
 obtain⟨A,c,h1,h2,h3,h4⟩:=h
 refine⟨A,c,?_,h2.keep (fun p ha _=>World.cell?_of_block (Below.heap_setCell w _ _ _ (show p.block≠g by omega))),hk,h4⟩
 have h:=h1.set 1 (.int .i64 ((at_:Int)+(k:Int)))
 simpa using h
theorem RRd.cells{w:World}{g hi at_:Nat}{bs:List Bool}(h:RRd w g hi bs at_):∃A c,w.cell? ⟨g,0,none⟩=some (.slice A bs.length c)/\w.cell? ⟨g,1,none⟩=some (.int .i64 at_)/\w.frozen? ⟨g,1,none⟩=false/\RowIn w (g+1) hi A bs.length 1 (mZ .u8 (b01 bs))/\at_<=bs.length/\bs.length<=800000:=by
 obtain⟨A,c,h1,h2,h3,h4⟩:=h
 exact⟨A,c,h1.cell 0,h1.cell 1,h1.frozen 1,h2,h3,h4⟩
theorem rleft_any(w:World)(g hi:Nat)(bs:List Bool)(at_:Nat)(hR:RRd w g hi bs at_):
 Calls Tryz.prog 214 #[.pointer (some ⟨g,0,none⟩)] w fun e w'=>e= .returned (.int .i64 ((bs.length-at_:Nat):Int))/\∃q,w'=w.drewN q:=by
 obtain⟨A,c,c0,c1,_,_,h3,h4⟩:=hR.cells
 generalize bs.length=z at *
 have s1:IntKind.i64.wrap ((z:Int)-(at_:Int))=((z-at_:Nat):Int):=by rw[IntWalk.i64_in _ (by omega)];omega
 clear hR
 go_enter Tryz.func214,Tryz.ntmps214
 go_wp2_with fail
 go_quiet (fail)
 go_wp2_with fail
 go_ret
 exact⟨rfl,_,rfl⟩
theorem pcZb(w:World)(g hi:Nat)(bs:List Bool)(at_ m:Nat)(hm:m<=64)(hR:RRd w g hi bs at_):
 Calls Tryz.prog 215 #[.pointer (some ⟨g,0,none⟩), .int .i64 (m:Nat)] w fun e w'=>
  e= .returned (.tuple #[.int .u64 (wbZ bs at_ m:Nat), .int .i64 ((min m (bs.length-at_):Nat):Int)])/\∃q,w'=w.drewN q:=by
 have HR:=hid hR
 clear hR
 go_enter Tryz.func215,Tryz.ntmps215
 go_wp2_with fail
 go_loopw [6,7,8] (fun u v i wr=>∃k x th:Nat,k<=m/\i= .int .i64 k/\u= .int .u64 x/\v= .int .i64 th/\Hid (x=wbZ bs at_ k)/\Hid (th=min k (bs.length-at_))/\Hid (∃q,wr=w.drewN q)) (fun _ _ i _=>m-(intOf i).toNat)
 case atStart=>exact⟨0,0,0,by omega,rfl,rfl,rfl,rfl,by show 0=_;omega,⟨0,rfl⟩⟩
 case round=>
  obtain⟨k,x,th,hk,rfl,rfl,rfl,hx,hth,hdr⟩:=hrel
  by_cases hlt:k<m
  ·have hR1:RRd wr g hi bs at_:=by obtain⟨q,hq⟩:=hdr.out;rw[hq];exact HR.out
   have C:=hid (rleft_any wr g hi bs at_ hR1)
   have HR1:=hid hR1
   have hxl:=mjZ bs at_ k
   rw[<-hx.out]at hxl
   have hx63:x<9223372036854775808:=Nat.lt_of_lt_of_le hxl (by have:2 ^ k<=2 ^ 63:=Nat.pow_le_pow_right (by omega) (by omega);omega)
   have hstep:wbZ bs at_ (k+1)=2*x+bit bs (at_+k):=by rw[wbZ,<-hx.out]
   clear hR1 hxl hx
   by_cases hin:at_+k<bs.length
   ·have x1:(k:Int)<((bs.length-at_:Nat):Int):=by omega
    have hbl:=reZ bs (at_+k)
    have hth2:th+1=min (k+1) (bs.length-at_):=by have:=hth.out;omega
    have htb:th<=64:=by have:=hth.out;omega
    have HT:=hid hth2
    have HS:=hid hstep
    clear hth hth2 hstep
    go_wp2_with fail
    refine C.out.mono ?_
    rintro e w2 ⟨rfl,q2,hq2⟩
    have hR2:RRd w2 g hi bs at_:=by rw[hq2];exact HR1.out.drewN q2
    have HD:Hid (∃q,w2=w.drewN q):=by
     obtain⟨q,rfl⟩:=hdr.out
     exact⟨_,by rw[hq2,World.drewN_drewN]⟩
    obtain⟨A,c,c0,c1,_,hrow,h3,h4⟩:=hR2.cells
    obtain⟨b,off,y,rfl,_,hy,d0⟩:=kbZ hrow.row (fjZ bs) hin
    have hyb:bit bs (at_+k)=y:=by rw[<-grZ,List.getD_eq_getElem?_getD,hy];rfl
    rw[hyb]at hbl HS
    have x2:(0:Int)<=(at_:Int)+(k:Int):=by omega
    have x3:(at_:Int)+(k:Int)<((bs.length:Nat):Int):=by omega
    generalize hz:bs.length=z at *
    have HZ:=hid hz
    clear hz hq2 hR2 hrow hy hyb C
    go_wp2_with fail
    go_quiet (fail)
    go_wp2_with fail
    go_roundw
    case measure=>go_light;simp[intOf];omega
    case rel=>
     go_light
     refine⟨k+1,2*x+y,th+1,by omega,by go_num,by go_num,by go_num,HS.out.symm,?_,?_⟩
     ·rw[HZ.out];exact HT.out
     ·obtain⟨q,rfl⟩:=HD.out
      exact⟨_,World.drewN_drewN _ _ _⟩
   ·have x1:¬(k:Int)<((bs.length-at_:Nat):Int):=by omega
    rw[peZ (by omega),Nat.add_zero]at hstep
    have hth2:th=min (k+1) (bs.length-at_):=by have:=hth.out;omega
    have HT:=hid hth2
    have HS:=hid hstep
    clear hth hth2 hstep
    go_wp2_with fail
    refine C.out.mono ?_
    rintro e w2 ⟨rfl,q2,hq2⟩
    have HD:Hid (∃q,w2=w.drewN q):=by
     obtain⟨q,rfl⟩:=hdr.out
     exact⟨_,by rw[hq2,World.drewN_drewN]⟩
    clear hq2 C
    go_wp2_with fail
    go_roundw
    case measure=>go_light;simp[intOf];omega
    case rel=>
     go_light
     exact⟨k+1,2*x,th,by omega,by go_num,by go_num,rfl,HS.out.symm,HT.out,HD.out⟩
  ·obtain rfl:k=m:=by omega
   go_wp2_with fail
   go_ret2
   exact⟨by rw[<-hx.out,<-hth.out];rfl,hdr.out⟩
end Go.Proofs.YtbgoibedicbkjaaGreatDoor.Huff
namespace Go.Proofs.YtbgoibedicbkjaaGreatDoor.Huff
open Go.RowKit Mem Canon Own
def jpZ(bs:List Bool)(at_ m:Nat):Nat:=if at_+m<=bs.length then wbZ bs at_ m else 0
def kpZ(bs:List Bool)(at_ m:Nat):Int:=if at_+m<=bs.length then 0 else 1
def lpZ(bs:List Bool)(at_ m:Nat):Nat:=if at_+m<=bs.length then at_+m else at_
theorem cvZ(w:World)(lo g:Nat)(bs:List Bool)(at_ m:Nat)(hm:m<=64)(hR:Rd w lo g bs at_):
 Calls Tryz.prog 245 #[.pointer (some ⟨g,0,none⟩), .int .i64 (m:Nat)] w fun e w'=>
  e= .returned (.tuple #[.int .u64 (jpZ bs at_ m:Nat), .int .i64 (kpZ bs at_ m)])/\Rd w' lo g bs (lpZ bs at_ m)/\Kept (fun x=>x≠g) w w':=by
 have C:=hid (left_any w lo g bs at_ hR)
 have HR:=hid hR
 have hat:at_<=bs.length/\bs.length<=800000:=by
  obtain⟨A,n,c,ls,h1,h2,h3,h4,h5,h6,h7⟩:=hR
  rw[h5,nbZ,h3];omega
 obtain⟨hat1,hat2⟩:=hat
 have c2:=hR.cellAt
 have f2:w.frozen? ⟨g,2,none⟩=false:=by
  obtain⟨A,n,c,ls,h1,_⟩:=hR
  exact h1.frozen 2
 unfold jpZ kpZ lpZ
 by_cases hlt:at_+m<=bs.length
 ·rw[if_pos hlt,if_pos hlt,if_pos hlt]
  have C2:=hid (ocZb w lo g bs at_ m hm hR)
  have x1:(m:Int)<=((bs.length-at_:Nat):Int):=by omega
  have HLT:=hid hlt
  generalize wbZ bs at_ m=y at *
  clear hR hlt
  go_enter Tryz.func245,Tryz.ntmps245
  go_wp2_with fail
  refine C.out.mono ?_
  rintro e w1 ⟨rfl,q,hq⟩
  have hR1:Rd w1 lo g bs at_:=by rw[hq];exact HR.out.drewN q
  have d2:=hR1.cellAt
  have g2:w1.frozen? ⟨g,2,none⟩=false:=by rw[hq];exact f2
  have C4:Hid (∀p,Calls Tryz.prog 267 #[.pointer (some ⟨g,0,none⟩), .int .i64 (at_:Nat), .int .i64 (m:Nat)] (w1.drewN p) fun e w'=>e= .returned (.int .u64 (y:Nat))/\w'=w1.drewN p):=by
   intro p
   have h:=C2.out (q+p)
   rw[hq,World.drewN_drewN]
   exact h
  have HR1:=hid hR1
  have HK1:Hid (Kept (fun x=>x≠g) w w1):=by show Kept _ w w1;rw[hq];exact(Kept.refl _ w).drewN q
  clear hq hR1 C C2 c2 f2
  go_wp2_with fail
  go_quiet (first|(go_at_call 267;exact Calls.quiet_of_same (C4.out _)))
  go_wp2_with fail
  go_ret2
  exact⟨rfl,(HR1.out.drewN _).moved HLT.out,Kept.set (p:=⟨g,2,none⟩) (HK1.out.drewN _) (fun h=>h rfl) _⟩
 ·rw[if_neg hlt,if_neg hlt,if_neg hlt]
  have x1:¬(m:Int)<=((bs.length-at_:Nat):Int):=by omega
  clear hR
  go_enter Tryz.func245,Tryz.ntmps245
  go_wp2_with fail
  refine C.out.mono ?_
  rintro e w1 ⟨rfl,q,rfl⟩
  go_wp2_with fail
  go_ret2
  exact⟨rfl,HR.out.drewN q,(Kept.refl _ w).drewN q⟩
theorem qcZb(w:World)(g hi:Nat)(bs:List Bool)(at_ m:Nat)(hm:m<=64)(hR:RRd w g hi bs at_):
 Calls Tryz.prog 177 #[.pointer (some ⟨g,0,none⟩), .int .i64 (m:Nat)] w fun e w'=>
  e= .returned (.tuple #[.int .u64 (jpZ bs at_ m:Nat), .int .i64 (kpZ bs at_ m)])/\RRd w' g hi bs (lpZ bs at_ m)/\Kept (fun x=>x≠g) w w':=by
 have C:=hid (rleft_any w g hi bs at_ hR)
 have C2:=hid (fun q=>pcZb (w.drewN q) g hi bs at_ m hm (hR.drewN q))
 have HR:=hid hR
 obtain⟨A,c,_,c1,f1,_,hat1,hat2⟩:=hR.cells
 unfold jpZ kpZ lpZ
 by_cases hlt:at_+m<=bs.length
 ·rw[if_pos hlt,if_pos hlt,if_pos hlt]
  have x1:(m:Int)<=((bs.length-at_:Nat):Int):=by omega
  have HLT:=hid hlt
  generalize wbZ bs at_ m=y at *
  clear hR hlt
  go_enter Tryz.func177,Tryz.ntmps177
  go_wp2_with fail
  refine C.out.mono ?_
  rintro e w1 ⟨rfl,q,rfl⟩
  go_wp2_with fail
  refine(C2.out q).mono ?_
  rintro e w2 ⟨rfl,q2,rfl⟩
  go_wp2_with fail
  go_ret2
  exact⟨rfl,(HR.out.drewN (q+q2)).moved HLT.out,Kept.set (p:=⟨g,1,none⟩) ((Kept.refl (fun x=>x≠g) w).drewN (q+q2)) (fun h=>h rfl) _⟩
 ·rw[if_neg hlt,if_neg hlt,if_neg hlt]
  have x1:¬(m:Int)<=((bs.length-at_:Nat):Int):=by omega
  clear hR
  go_enter Tryz.func177,Tryz.ntmps177
  go_wp2_with fail
  refine C.out.mono ?_
  rintro e w1 ⟨rfl,q,rfl⟩
  go_wp2_with fail
  go_ret2
  exact⟨rfl,HR.out.drewN q,(Kept.refl _ w).drewN q⟩
end Go.Proofs.YtbgoibedicbkjaaGreatDoor.Huff
namespace Go.Proofs.YtbgoibedicbkjaaGreatDoor.Huff
open Go.RowKit Mem Canon Own
def unC(bs:List Bool):Nat->Nat->Nat
 |_,0=>0
 |i,f+1=>if bit bs i=1 then 0 else unC bs (i+1) f+1
def unD(bs:List Bool)(at_:Nat):Nat:=unC bs at_ (bs.length-at_)
def unV(bs:List Bool)(at_:Nat):Nat:=if at_+unD bs at_<bs.length then unD bs at_ else 0
def unE(bs:List Bool)(at_:Nat):Int:=if at_+unD bs at_<bs.length then 0 else 1
def unA(bs:List Bool)(at_:Nat):Nat:=if at_+unD bs at_<bs.length then at_+unD bs at_+1 else at_
theorem rcZb{bs:List Bool}{at_ i:Nat}(h:unD bs at_=i-at_+unC bs i (bs.length-i))(h1:at_<=i)(h2:i<bs.length)(hb:bit bs i=1):unV bs at_=i-at_/\unE bs at_=0/\unA bs at_=i+1:=by
 have e:bs.length-i=(bs.length-(i+1))+1:=by omega
 rw[e,unC,if_pos hb,Nat.add_zero]at h
 unfold unV unE unA
 rw[h,if_pos (by omega),if_pos (by omega),if_pos (by omega)]
 exact⟨rfl,rfl,by omega⟩
theorem uyZ{bs:List Bool}{at_ i:Nat}(h:unD bs at_=i-at_+unC bs i (bs.length-i))(h1:at_<=i)(h2:i<bs.length)(hb:bit bs i≠1):unD bs at_=i+1-at_+unC bs (i+1) (bs.length-(i+1)):=by
 have e:bs.length-i=(bs.length-(i+1))+1:=by omega
 rw[e,unC,if_neg hb]at h
 omega
theorem scZb{bs:List Bool}{at_ i:Nat}(h:unD bs at_=i-at_+unC bs i (bs.length-i))(h1:at_<=i)(h2:i=bs.length):unV bs at_=0/\unE bs at_=1/\unA bs at_=at_:=by
 rw[h2,Nat.sub_self,unC]at h
 unfold unV unE unA
 rw[if_neg (by omega),if_neg (by omega),if_neg (by omega)]
 exact⟨rfl,rfl,rfl⟩
theorem ngZb(w:World)(lo g:Nat)(bs:List Bool)(at_:Nat)(hR:Rd w lo g bs at_):
 Calls Tryz.prog 243 #[.pointer (some ⟨g,0,none⟩)] w fun e w'=>
  e= .returned (.tuple #[.int .i64 (unV bs at_:Nat), .int .i64 (unE bs at_)])/\Rd w' lo g bs (unA bs at_)/\Kept (fun x=>x≠g) w w':=by
 have HR:=hid hR
 obtain⟨A,n,c,ls,h1,h2,h3,h4,h5,h6,h7⟩:=hR
 have hl:bs.length=8*n:=by rw[h5,nbZ,h3]
 have hz:bs.length<=800000:=by omega
 have hat:at_<=bs.length:=by omega
 have c0:=h1.cell 0
 have c1:=h1.cell 1
 have c2:=h1.cell 2
 have f2:=h1.frozen 2
 rw[<-hl]at c1
 simp only[List.getElem?_toArray,List.getElem?_cons_zero,List.getElem?_cons_succ]at c0 c1 c2
 have DB:=hid (fun i hi=>tyZ w g g A n c i ls h3 h7 h4 (by omega:i<8*n) c0 h2.row)
 rw[<-h5,<-hl]at DB
 have H1:Hid (unD bs at_=at_-at_+unC bs at_ (bs.length-at_)):=by show _=_;unfold unD;omega
 clear h1 h2 h3 h4 h5 h6 h7 hl c0
 obtain⟨z,hzz⟩:∃z,z=bs.length:=⟨_,rfl⟩
 rw[<-hzz]at c1 hz hat DB
 have HZ:=hid hzz
 clear hzz
 go_enter Tryz.func243,Tryz.ntmps243
 go_wp2_with fail
 go_loopw [4] (fun iv wr=>∃i:Nat,at_<=i/\i<=z/\iv= .int .i64 i/\Hid (wr=w)/\Hid (unD bs at_=i-at_+unC bs i (bs.length-i))) (fun iv _=>z-(intOf iv).toNat)
 case atStart=>exact⟨at_,Nat.le_refl _,hat,rfl,rfl,H1.out⟩
 case round=>
  obtain⟨i,hi1,hi2,rfl,hw,HU⟩:=hrel
  have hw:=hw.out
  subst hw
  clear H1
  by_cases hlt:i<z
  ·have g1:decide ((i:Int)<(z:Int))=true:=by simp;omega
   have g1':decide (i<z)=true:=by simp;omega
   have D:=hid (DB.out i hlt)
   by_cases hb:bit bs i=1
   ·have UU:=hid (rcZb HU.out hi1 (by rw[<-HZ.out];exact hlt) hb)
    have hw1:IntKind.i64.wrap ((i:Int)-(at_:Int))=((i-at_:Nat):Int):=by rw[IntWalk.i64_in _ (by omega)];omega
    have HU3:Hid (Rd (wr.setCell ⟨g,2,none⟩ (.int .i64 ((i:Int)+1))) lo g bs (i+1)):=by
     have h:=HR.out.moved (k:=i+1-at_) (by rw[<-HZ.out];omega)
     rw[show((at_:Int)+((i+1-at_:Nat):Int))=(i:Int)+1 by omega,show at_+(i+1-at_)=i+1 by omega]at h
     exact h
    rw[hb]at D
    clear hb HU DB
    go_wp2_with fail
    refine D.out.mono ?_
    rintro e w1 ⟨rfl,rfl⟩
    go_wp2_with fail
    go_ret2
    rw[UU.out.1,UU.out.2.1,UU.out.2.2]
    exact⟨rfl,HU3.out,(Kept.refl _ _).set (fun h=>h rfl) _⟩
   ·have hb0:bit bs i=0:=by have:=reZ bs i;omega
    have HU2:=hid (uyZ HU.out hi1 (by rw[<-HZ.out];exact hlt) hb)
    rw[hb0]at D
    clear hb hb0 HU
    go_wp2_with fail
    refine D.out.mono ?_
    rintro e w1 ⟨rfl,rfl⟩
    go_wp2_with fail
    go_roundw
    case measure=>go_light;simp[intOf];omega
    case rel=>go_light;exact⟨i+1,by omega,by omega,by first|rfl|go_num,trivial,HU2.out⟩
  ·obtain rfl:i=z:=by omega
   have g1:decide ((i:Int)<(i:Int))=false:=by simp
   have UU:=hid (scZb HU.out hi1 HZ.out)
   clear HU DB
   go_wp2_with fail
   go_ret2
   rw[UU.out.1,UU.out.2.1,UU.out.2.2]
   exact⟨rfl,HR.out,Kept.refl _ _⟩
theorem tcZb(w:World)(g hi:Nat)(bs:List Bool)(at_:Nat)(hR:RRd w g hi bs at_):
 Calls Tryz.prog 178 #[.pointer (some ⟨g,0,none⟩)] w fun e w'=>
  e= .returned (.tuple #[.int .i64 (unV bs at_:Nat), .int .i64 (unE bs at_)])/\RRd w' g hi bs (unA bs at_)/\Kept (fun x=>x≠g) w w':=by
 have HR:=hid hR
 obtain⟨A,c,c0,c1,f1,hrow,hat,hz⟩:=hR.cells
 have HROW:=hid hrow
 have H1:Hid (unD bs at_=at_-at_+unC bs at_ (bs.length-at_)):=by show _=_;unfold unD;omega
 clear hR hrow
 obtain⟨z,hzz⟩:∃z,z=bs.length:=⟨_,rfl⟩
 rw[<-hzz]at c0 hz hat
 have HZ:=hid hzz
 clear hzz
 go_enter Tryz.func178,Tryz.ntmps178
 go_wp2_with fail
 go_loopw [4] (fun iv wr=>∃i:Nat,at_+i<=z/\iv= .int .i64 i/\Hid (∃q,wr=w.drewN q)/\Hid (unD bs at_=at_+i-at_+unC bs (at_+i) (bs.length-(at_+i)))) (fun iv _=>z-(intOf iv).toNat)
 case atStart=>exact⟨0,hat,rfl,⟨0,rfl⟩,H1.out⟩
 case round=>
  obtain⟨i,hi2,rfl,hw,HU⟩:=hrel
  have d0:wr.cell? ⟨g,0,none⟩=some (.slice A z c):=by obtain⟨q,hq⟩:=hw.out;rw[hq];exact c0
  have d1:wr.cell? ⟨g,1,none⟩=some (.int .i64 at_):=by obtain⟨q,hq⟩:=hw.out;rw[hq];exact c1
  have k1:wr.frozen? ⟨g,1,none⟩=false:=by obtain⟨q,hq⟩:=hw.out;rw[hq];exact f1
  have HR1:Hid (RRd wr g hi bs at_):=by obtain⟨q,hq⟩:=hw.out;rw[hq];exact HR.out.drewN q
  have HK1:Hid (Kept (fun x=>x≠g) w wr):=by obtain⟨q,hq⟩:=hw.out;rw[hq];exact(Kept.refl _ _).drewN q
  have HRW:Hid (RowIn wr (g+1) hi A bs.length 1 (mZ .u8 (b01 bs))):=by obtain⟨q,hq⟩:=hw.out;rw[hq];exact HROW.out
  have HD:∀q2,Hid (∃q,wr.drewN q2=w.drewN q):=fun q2=>by obtain⟨q,hq⟩:=hw.out;exact⟨q+q2,by rw[hq,World.drewN_drewN]⟩
  have s1:IntKind.i64.wrap ((at_:Int)+(i:Int))=((at_+i:Nat):Int):=by rw[IntWalk.i64_in _ (by omega)];omega
  clear H1 hw c0 c1 f1
  by_cases hlt:at_+i<z
  ·have g1:decide (((at_+i:Nat):Int)<(z:Int))=true:=by simp;omega
   have g1':decide (at_+i<z)=true:=by simp;omega
   obtain⟨b,off,y,rfl,_,hy,e0⟩:=kbZ HRW.out.row (fjZ bs) (by rw[<-HZ.out];exact hlt)
   have hyb:bit bs (at_+i)=y:=by rw[<-grZ,List.getD_eq_getElem?_getD,hy];rfl
   obtain⟨p,hp⟩:∃p,p=at_+i:=⟨_,rfl⟩
   rw[<-hp]at s1 g1 g1' e0 hyb HU hlt
   have x0:(0:Int)<=(p:Int):=by omega
   have x1:(p:Int)<(z:Int):=by omega
   clear hy HRW
   by_cases hb:y=1
   ·subst hb
    have UU:=rcZb HU.out (by omega) (by rw[<-HZ.out];exact hlt) hyb
    rw[show p-at_=i by omega]at UU
    have UU:=hid UU
    have HU3:Hid (RRd (wr.setCell ⟨g,1,none⟩ (.int .i64 ((p:Int)+1))) g hi bs (p+1)):=by
     have h:=HR1.out.moved (k:=p+1-at_) (by rw[<-HZ.out];omega)
     rw[show((at_:Int)+((p+1-at_:Nat):Int))=(p:Int)+1 by omega,show at_+(p+1-at_)=p+1 by omega]at h
     exact h
    clear hyb HU hp
    go_wp2_with fail
    go_quiet (fail)
    go_wp2_with fail
    go_quiet (fail)
    go_wp2_with fail
    go_ret2
    rw[UU.out.1,UU.out.2.1,UU.out.2.2]
    exact⟨rfl,HU3.out.drewN _,HK1.out.drewN _ |>.set (fun h=>h rfl) _⟩
   ·have hb0:y=0:=by have:=reZ bs p;omega
    have HU2:=hid (uyZ HU.out (by omega) (by rw[<-HZ.out];exact hlt) (by rw[hyb];exact hb))
    subst hb0
    rw[show p+1=at_+(i+1) by omega]at HU2
    have hp2:at_+(i+1)<=z:=by omega
    clear hyb HU hp hb
    go_wp2_with fail
    go_quiet (fail)
    go_wp2_with fail
    go_quiet (fail)
    go_wp2_with fail
    go_roundw
    case measure=>go_light;simp[intOf];omega
    case rel=>go_light;exact⟨i+1,hp2,by first|rfl|go_num,(HD _).out,HU2.out⟩
  ·have g1:decide (((at_+i:Nat):Int)<(z:Int))=false:=by simp;omega
   have g1':decide (at_+i<z)=false:=by simp;omega
   have UU:=hid (scZb HU.out (by omega) (by rw[<-HZ.out];omega))
   obtain⟨p,hp⟩:∃p,p=at_+i:=⟨_,rfl⟩
   rw[<-hp]at s1 g1 g1'
   clear HU hp HRW
   go_wp2_with fail
   go_quiet (fail)
   go_wp2_with fail
   go_ret2
   rw[UU.out.1,UU.out.2.1,UU.out.2.2]
   exact⟨rfl,HR1.out.drewN _,HK1.out.drewN _⟩
end Go.Proofs.YtbgoibedicbkjaaGreatDoor.Huff
