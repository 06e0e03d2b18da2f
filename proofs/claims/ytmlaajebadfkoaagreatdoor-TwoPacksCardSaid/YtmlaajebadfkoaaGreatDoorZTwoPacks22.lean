/- The walk of the reference's W.Put: a number's bits, one behind the oth -/
import Derived.Test.YtmlaajebadfkoaaGreatDoorZTwoPacks2
import Derived.Test.YtmlaajebadfkoaaGreatDoorZTwoPacks1
import Derived.Test.YtmlaajebadfkoaaGreatDoorZTwoPacks3
import Derived.Test.YtmlaajebadfkoaaGreatDoorZTwoPacks21
import Derived.Deep.RegionLaw
import Derived.Deep.AppendLies
import Derived.BigGuardPart
import Derived.BigRegion
import Derived.Deep.RegionHeld3
namespace Go.Proofs.YtmlaajebadfkoaaGreatDoor end Go.Proofs.YtmlaajebadfkoaaGreatDoor open Go.Proofs.YtmlaajebadfkoaaGreatDoor
open Go.Lib (hid)
set_option maxHeartbeats 1000000
set_option maxRecDepth 100000
namespace Go.Proofs.YtmlaajebadfkoaaGreatDoor.Huff
open Go.RowKit Mem Canon Own
def b01(bs:List Bool):List Nat:=bs.map fun b=>if b then 1 else 0
theorem fvZ(bs:List Bool):(b01 bs).length=bs.length:=by simp[b01]
theorem upZb(bs:List Bool)(i:Nat):(b01 bs).getD i 0=bit bs i:=by
 unfold b01 bit
 rw[List.getD_eq_getElem?_getD,List.getD_eq_getElem?_getD,List.getElem?_map]
 cases bs[i]? <;>simp
theorem numL_snoc(k:IntKind)(l:List Nat)(x:Nat):dZ k (l++ [x])=dZ k l++ [.int k (x:Nat)]:=by simp[dZ]
structure RW (K:Nat->Prop) (w:World) (base g:Nat) (bs:List Bool) (v:Value):Prop where
 blk:Blk w g 267 #[v]
 own:w.ownsRow base 5 1 v bs.length (dZ .u8 (b01 bs))
 ne:v.ownBlock≠some g
 base:base<=w.heap.size
 kg:¬K g
 kv:∀x,v.ownBlock=some x->¬K x
 kK:∀k,K k->k<w.heap.size
theorem RW.start{K:Nat->Prop}{w w1:World}{g:Nat}(hb:Blk w1 g 267 #[.slice none 0 0])(hg:w.heap.size<=g)(hK:∀k,K k->k<w.heap.size)(h1:w.heap.size<=w1.heap.size):RW K w1 w.heap.size g [] (.slice none 0 0):=
 ⟨hb,World.ownsRow_nil _ _ _ _,(fun h=>by cases h),h1,(fun h=>by have:=hK _ h;omega),(fun x h=>by cases h),fun k h=>by have:=hK k h;omega⟩
theorem RW.weak{K L:Nat->Prop}{w:World}{base g:Nat}{bs:List Bool}{v:Value}(h:RW K w base g bs v)(hl:∀k,L k->K k):RW L w base g bs v:=
 ⟨h.blk,h.own,h.ne,h.base,fun e=>h.kg (hl _ e),fun x hx e=>h.kv x hx (hl _ e),fun k e=>h.kK k (hl k e)⟩
theorem RW.step{K L:Nat->Prop}{w w':World}{base g:Nat}{bs:List Bool}{v:Value}(h:RW K w base g bs v)(hb:Below w.heap.size w w')(hL:∀k,L k->K k∨w.heap.size<=k/\k<w'.heap.size):RW L w' base g bs v:=by
 have hv:∀x,v.ownBlock=some x->x<w.heap.size:=fun x hx=>(World.ownsRow.lt h.own x hx).2
 refine⟨h.blk.step hb,fZ h.own (fun x hx=>hb.block x (hv x hx)),h.ne,Nat.le_trans h.base hb.size,fun e=> ?_,fun x hx e=> ?_,fun k e=> ?_⟩
 ·rcases hL _ e with e|e
  ·exact h.kg e
  ·have:=h.blk.lt;omega
 ·rcases hL _ e with e|e
  ·exact h.kv x hx e
  ·have:=hv x hx;omega
 ·rcases hL _ e with e|e
  ·have:=h.kK k e;have:=hb.size;omega
  ·exact e.2
theorem RW.push{K:Nat->Prop}{w w1 w3:World}{base g g3 cap:Nat}{bs:List Bool}{v:Value}(b:Bool){y:Int}(h:RW K w base g bs v)(hb:Below w.heap.size w w1)(hy:y=((if b then 1 else 0:Nat):Int))
 (hown:w3.ownsRow base 5 1 (.slice (some ⟨g3,0,none⟩) (bs.length+1) cap) (bs.length+1) (dZ .u8 (b01 bs)++ [.int .u8 y]))(hg:w1.grownBy w3 v.ownBlock)(hat:v.ownBlock=some g3∨g3=w1.heap.size):
 RW K (w3.setCell ⟨g,0,none⟩ (.slice (some ⟨g3,0,none⟩) (bs.length+1) cap)) base g (bs++ [b]) (.slice (some ⟨g3,0,none⟩) (bs.length+1) cap)/\Kept K w (w3.setCell ⟨g,0,none⟩ (.slice (some ⟨g3,0,none⟩) (bs.length+1) cap)):=by
 have hgl:=h.blk.lt
 have hz:=hb.size
 have hkeep:g3≠g/\¬K g3:=by
  rcases hat with e|e
  ·exact⟨fun e2=>h.ne (by rw[e,e2]),h.kv g3 e⟩
  ·exact⟨by omega,fun e2=>by have:=h.kK _ e2;omega⟩
 have blk3:Blk w3 g _ _:=(h.blk.step hb).grown hg (Ne.symm h.ne)
 have hkp:Kept K w (w3.setCell ⟨g,0,none⟩ (.slice (some ⟨g3,0,none⟩) (bs.length+1) cap)):=
  Kept.set (p:=⟨g,0,none⟩) ((Kept.of_below hb h.kK).grown hg (fun k e=>by have:=h.kK k e;omega) h.kv) h.kg _
 have e1:dZ .u8 (b01 (bs++ [b]))=dZ .u8 (b01 bs)++ [.int .u8 y]:=by rw[hy];simp[dZ,b01]
 refine⟨⟨blk3.set 0 _,?_,fun e=>hkeep.1 (by simpa[Value.ownBlock]using e),Nat.le_trans h.base hkp.size,h.kg,fun x hx=> ?_,hkp.lt h.kK⟩,hkp⟩
 ·rw[e1,List.length_append,List.length_singleton]
  exact fZ hown (fun x hx=>by
   have hx:g3=x:=by simpa[Value.ownBlock]using hx
   subst hx
   exact Below.heap_setCell _ _ _ g3 hkeep.1)
 ·have hx:g3=x:=by simpa[Value.ownBlock]using hx
  subst hx
  exact hkeep.2
def qwZ(x k:Nat):List Nat:=(List.range k).map fun i=>x / 2 ^ i % 2
theorem fkZb(x k:Nat):qwZ x (k+1)=qwZ x k++ [x / 2 ^ k % 2]:=by simp[qwZ,List.range_succ]
theorem xmZb{x k i:Nat}(h:i<k):(qwZ x k)[i]? =some (x / 2 ^ i % 2):=by simp[qwZ,h]
theorem rput_any(K:Nat->Prop)(w:World)(g base:Nat)(v:Value)(bs:List Bool)(x n:Nat)(hx:x<2 ^ n)(hn:n<=64)(hle:bs.length+n<=6000000)(hW:RW K w base g bs v):
 Calls Tryz.prog 209 #[.pointer (some ⟨g,0,none⟩), .int .u64 (x:Nat), .int .i64 (n:Nat)] w fun e w'=>e= .returned (.int .i64 0)/\∃v',RW K w' base g (bs++msb x n n) v'/\Kept K w w':=by
 obtain⟨j0,hj0,hy0,hy1,hy2⟩:=info_parts hbZ
 have hx64:x<18446744073709551616:=Nat.lt_of_lt_of_le hx (by have:2 ^ n<=2 ^ 64:=Nat.pow_le_pow_right (by omega) hn;omega)
 have HW:=hid hW
 have HLE:=hid hle
 have HX:=hid hx
 clear hW hle hx
 go_enter Tryz.func209,Tryz.ntmps209
 go_wp2_with fail
 go_loopw [1,7,8] (fun y u i wr=>∃ (k z:Nat),k<=n/\i= .int .i64 k/\y= .int .u64 z/\Hid (z=x / 2 ^ k)/\z<18446744073709551616/\wr.ownsRow w.heap.size 5 1 u k (dZ .u8 (qwZ x k))/\Below w.heap.size w wr) (fun _ _ i _=>n-(intOf i).toNat)
 case atStart=>exact⟨0,x,by omega,rfl,rfl,by show x=_;simp,hx64,World.ownsRow_nil _ _ _ _,Below.refl _ _⟩
 case round=>
  obtain⟨k,z,hk,rfl,rfl,hz,hz64,hown,rbel⟩:=hrel
  have hbr:=rbel.size
  by_cases hlt:k<n
  ·obtain⟨va,vc,rfl⟩:=bZ hown
   go_wp2_with(at_builtin;refine hZ rfl (.tmp 21) (.tmp 25) 29 rfl w.heap.size 5 j0 _ 1 1 Tryz.underlying29 hj0 hy0 hy1 hy2 rfl (by decide) _ _ _ (by rfl) (hown.alloc _) _ 1 1 [.int .u8 ((z % 2:Nat):Int)] (by rfl) (Src.of_blk (Blk.made _ _ _) 1 1 1 rfl) (by intro u hu;simp at hu;subst hu;rfl) (by unfold maxLen;omega) (by omega) (by simp;omega) ?_;intro v3 w3 hown3 hg3 hat3)
   have hz2:z / 2=x / 2 ^ (k+1):=by rw[hz.out,Nat.pow_succ,Nat.div_div_eq_div_mul]
   have HZ2:=hid hz2
   go_roundw
   case measure=>go_light;simp[intOf];omega
   case rel=>
    go_light
    refine⟨k+1,z / 2,by omega,by go_num,by go_num,HZ2.out,by omega,?_,(eZ hbr rbel).grown hg3 (by simp;omega) (fun y hy=>(World.ownsRow.lt hown y hy).1)⟩
    rw[fkZb,numL_snoc,<-hz.out]
    exact hown3
  ·obtain rfl:k=n:=by omega
   have hz0:z=0:=by rw[hz.out];exact Nat.div_eq_of_lt HX.out
   subst hz0
   have e0:((0:Nat):Int)=0:=rfl
   rw[e0]
   clear e0
   obtain⟨va,vc,rfl⟩:=bZ hown
   have hW2:RW (fun y=>K y∨some y=(Value.slice va k vc).ownBlock) wr base g bs v:=HW.out.step rbel (fun y hy=>by
    rcases hy with hy|hy
    ·exact .inl hy
    ·exact .inr (World.ownsRow.lt hown y hy.symm))
   have hW3:RW (fun y=>K y∨some y=(Value.slice va k vc).ownBlock) wr base g (bs++msb x k (k-k)) v:=by rw[Nat.sub_self,daZb,List.append_nil];exact hW2
   have HW3:=hid hW3
   have HKP:=hid (Kept.of_below rbel HW.out.kK)
   have HOWN:=hid hown
   clear hW2 hW3 hz hown rbel
   go_wp2_with fail
   obtain⟨wo,rfl⟩:∃wo:World,wo=wr:=⟨_,rfl⟩
   go_loopw [9] (fun i wx=>∃ (j:Nat) (v':Value),j<=k/\i= .int .i64 ((j:Int)-1)/\Hid (RW (fun y=>K y∨some y=(Value.slice va k vc).ownBlock) wx base g (bs++msb x k (k-j)) v')/\Kept (fun y=>K y∨some y=(Value.slice va k vc).ownBlock) wo wx) (fun i _=>(intOf i+1).toNat)
   case atStart=>exact⟨k,v,by omega,by go_num,HW3.out,Kept.refl _ _⟩
   case round=>
    obtain⟨j,v',hj,rfl,hWr,hkp⟩:=hrel
    cases j with
    |zero=>
     have e:(((0:Nat):Int)-1)= -1:=by omega
     rw[e]
     clear e
     go_wp2_with fail
     go_ret
     refine⟨rfl,v',hWr.out.weak (fun y hy=> .inl hy),HKP.out.trans ⟨hkp.os,hkp.tape,hkp.output,hkp.size,fun y hy=>hkp.block y (.inl hy)⟩⟩
    |succ j=>
     have e:(((j+1:Nat):Int)-1)=(j:Int):=by omega
     rw[e]
     clear e
     obtain⟨gl,cl,hgl,hgl1,hgl2⟩:=HOWN.out.form (by omega)
     injection hgl with e1 e2 e3
     subst e1 e3
     have c0:=(World.cell?_of_block (a:=⟨gl,j,none⟩) (hkp.block gl (.inr rfl))).trans (HOWN.out.cellAt j (by omega))
     have c1:wr.cell? ⟨gl,j,none⟩=some (.int .u8 ((x / 2 ^ j % 2:Nat):Int)):=by
      rw[c0];simp[dZ,xmZb (show j<k by omega)]
     have hown:=hWr.out.own
     have hlen:(bs++msb x k (k-(j+1))).length<=6000000:=by rw[List.length_append,uZ];have:=HLE.out;omega
     obtain⟨q,hq⟩:∃q,q=(bs++msb x k (k-(j+1))).length:=⟨_,rfl⟩
     rw[<-hq]at hown hlen
     obtain⟨AS,cS,rfl⟩:=bZ hown
     have HQ:=hid hq
     have d0:=hWr.out.blk.cell 0
     simp only[List.getElem?_toArray,List.getElem?_cons_zero]at d0
     have f0:=hWr.out.blk.frozen 0
     have hgl0:=hWr.out.blk.lt
     have hne2:some g≠(Value.slice AS q cS).ownBlock:=Ne.symm hWr.out.ne
     generalize hyv:((x / 2 ^ j % 2:Nat):Int)=yv at c1
     have HYV:=hid hyv
     have x0:(0:Int)<=(j:Int):=by omega
     have x1:(j:Int)<(k:Int):=by omega
     have hkz:=hWr.out.base
     clear c0 hyv hq hgl1 hgl2 e2
     go_upto_region 14 with fail
     go_region_law((refine step_append_lies _ (by rfl) _ _ _ (by rfl) base 5 j0 _ 1 1 Tryz.underlying29 hj0 hy0 hy1 hy2 rfl (by omega) (.slice AS q cS) q (dZ .u8 (b01 (bs++msb x k (k-(j+1))))) (by rfl) ((hown.alloc _).drew) ⟨wr.heap.size,0,none⟩ 1 1 [.int .u8 yv] (by rfl) (by rfl) (World.news_of_block (cs:=#[.int .u8 yv]) (t:=5) (fr:=(0,0)) (heap_alloc_new wr _)) (by intro u hu;simp at hu;subst hu;rfl) (by omega) (by unfold maxLen;omega) (by omega) (by simp;omega) (wr.heap.size+1) (by simp) ?_;intro g3 cap3 w3 hown3 hgrow hat hlt3;have gb:w3.heap[g]? =wr.heap[g]? :=(hgrow.block g (by simp;omega) hne2).trans (Below.heap_alloc wr _ g hgl0);have p3:=(World.cell?_of_block (a:=⟨g,0,none⟩) gb).trans d0;have p4:=(World.frozen?_of_block (a:=⟨g,0,none⟩) gb).trans f0))
     all_goals
      go_wp2_with fail
      go_roundw
      case measure=>go_light;simp[intOf]
      case rel=>
       go_light
       have hq:=HQ.out
       subst hq
       obtain⟨hW4,hk4⟩:=hWr.out.push (decide (x / 2 ^ j % 2=1)) (y:=yv) ((aZ (Below.refl _ wr)).drew) (by rw[<-HYV.out,xeZb]) hown3 hgrow (by simpa using hat)
       have e:bs++msb x k (k-j)=bs++msb x k (k-(j+1))++ [decide (x / 2 ^ j % 2=1)]:=by
        rw[show k-j=k-(j+1)+1 by omega,eaZb,<-List.append_assoc,show k-1-(k-(j+1))=j by omega]
       rw[<-e]at hW4
       exact⟨j,_,by omega,by go_num,hW4,hkp.trans hk4⟩
end Go.Proofs.YtmlaajebadfkoaaGreatDoor.Huff
namespace Go.Proofs.YtmlaajebadfkoaaGreatDoor.Huff
open Go.RowKit Mem Canon Own
def xfZ(ls:List Nat)(l:Nat):List Nat:=if l=0 then []else symsOf ls l
theorem ibZb(ls:List Nat)(l:Nat):(xfZ ls l).length=cn ls l:=by
 unfold xfZ cn
 split
 ·rfl
 ·exact nzZ l ls
theorem ihZ{ls:List Nat}{k x:Nat}(hx:ls[k]? =some x)(h0:x≠0)(l:Nat):cn (ls.take (k+1)) l=cn (ls.take k) l+if x=l then 1 else 0:=by
 rw[heZ hx]
 unfold cn
 split
 ·rename_i h;subst h;rw[if_neg h0]
 ·rw[efZ]
theorem fmZ{ls:List Nat}{k:Nat}(hx:ls[k]? =some 0)(l:Nat):cn (ls.take (k+1)) l=cn (ls.take k) l:=by
 rw[heZ hx]
 unfold cn
 split
 ·rfl
 ·rw[efZ,if_neg (by omega)];rfl
theorem gvZ{ls:List Nat}{k x:Nat}(hx:ls[k]? =some x)(h0:x≠0)(l:Nat):xfZ (ls.take (k+1)) l=xfZ (ls.take k) l++if x=l then [k]else []:=by
 have hk:(ls.take k).length=k:=by
  have:=(List.getElem?_eq_some_iff.1 hx).1
  rw[List.length_take];omega
 rw[heZ hx]
 unfold xfZ
 split
 ·rename_i h;subst h;rw[if_neg h0];rfl
 ·rw[jnZ,hk]
theorem hvZ{ls:List Nat}{k:Nat}(hx:ls[k]? =some 0)(l:Nat):xfZ (ls.take (k+1)) l=xfZ (ls.take k) l:=by
 rw[heZ hx]
 unfold xfZ
 split
 ·rfl
 ·rw[jnZ,if_neg (by omega),List.append_nil]
def gmZ(ls:List Nat)(k l:Nat):Nat:=if cn (ls.take k) l=0 then 0 else fst ls l
def upd(sv:Nat->Value)(l:Nat)(v:Value):Nat->Value:=fun m=>if m=l then v else sv m
structure Cells (ls:List Nat) (k:Nat) (vl vc:Value) (sv:Nat->Value) (cs:Array Value):Prop where
 size:cs.size=50
 lens:cs[0]? =some vl
 codes:cs[1]? =some vc
 first:∀l,l<16->cs[2+l]? =some (.int .i64 (gmZ ls k l:Nat))
 many:∀l,l<16->cs[18+l]? =some (.int .i64 (cn (ls.take k) l:Nat))
 syms:∀l,l<16->cs[34+l]? =some (sv l)
theorem Cells.start(ls:List Nat)(vl vc:Value):Cells ls 0 vl vc (fun _=> .slice none 0 0)
 #[vl,vc, .int .i64 0, .int .i64 0, .int .i64 0, .int .i64 0, .int .i64 0, .int .i64 0, .int .i64 0, .int .i64 0, .int .i64 0, .int .i64 0, .int .i64 0, .int .i64 0, .int .i64 0, .int .i64 0, .int .i64 0, .int .i64 0,
  .int .i64 0, .int .i64 0, .int .i64 0, .int .i64 0, .int .i64 0, .int .i64 0, .int .i64 0, .int .i64 0, .int .i64 0, .int .i64 0, .int .i64 0, .int .i64 0, .int .i64 0, .int .i64 0, .int .i64 0, .int .i64 0,
  .slice none 0 0, .slice none 0 0, .slice none 0 0, .slice none 0 0, .slice none 0 0, .slice none 0 0, .slice none 0 0, .slice none 0 0, .slice none 0 0, .slice none 0 0, .slice none 0 0, .slice none 0 0, .slice none 0 0, .slice none 0 0, .slice none 0 0, .slice none 0 0]:=by
 have hc:∀l,cn (ls.take 0) l=0:=by intro l;simp[cn,yjZ]
 have hf:∀l,gmZ ls 0 l=0:=by intro l;unfold gmZ;rw[if_pos (hc l)]
 refine⟨rfl,rfl,rfl,fun l hl=> ?_,fun l hl=> ?_,fun l hl=> ?_⟩
 ·rw[hf]
  have:l=0∨l=1∨l=2∨l=3∨l=4∨l=5∨l=6∨l=7∨l=8∨l=9∨l=10∨l=11∨l=12∨l=13∨l=14∨l=15:=by omega
  rcases this with rfl|rfl|rfl|rfl|rfl|rfl|rfl|rfl|rfl|rfl|rfl|rfl|rfl|rfl|rfl|rfl<;>rfl
 ·rw[hc]
  have:l=0∨l=1∨l=2∨l=3∨l=4∨l=5∨l=6∨l=7∨l=8∨l=9∨l=10∨l=11∨l=12∨l=13∨l=14∨l=15:=by omega
  rcases this with rfl|rfl|rfl|rfl|rfl|rfl|rfl|rfl|rfl|rfl|rfl|rfl|rfl|rfl|rfl|rfl<;>rfl
 ·have:l=0∨l=1∨l=2∨l=3∨l=4∨l=5∨l=6∨l=7∨l=8∨l=9∨l=10∨l=11∨l=12∨l=13∨l=14∨l=15:=by omega
  rcases this with rfl|rfl|rfl|rfl|rfl|rfl|rfl|rfl|rfl|rfl|rfl|rfl|rfl|rfl|rfl|rfl<;>rfl
theorem Cells.skip{ls:List Nat}{k:Nat}{vl vc:Value}{sv:Nat->Value}{cs:Array Value}(h:Cells ls k vl vc sv cs)(hx:ls[k]? =some 0):Cells ls (k+1) vl vc sv cs:=by
 refine⟨h.size,h.lens,h.codes,fun l hl=> ?_,fun l hl=> ?_,h.syms⟩
 ·rw[h.first l hl];unfold gmZ;rw[fmZ hx]
 ·rw[h.many l hl,fmZ hx]
theorem Cells.next{ls:List Nat}{k x c:Nat}{vl vc v:Value}{sv:Nat->Value}{cs:Array Value}(h:Cells ls k vl vc sv cs)(hx:ls[k]? =some x)(h0:x≠0)(h15:x<=15)(hc:cn (ls.take k) x=c)(hne:c≠0):
 Cells ls (k+1) vl vc (upd sv x v) ((cs.setIfInBounds (18+x) (.int .i64 ((c+1:Nat):Int))).setIfInBounds (34+x) v):=by
 have hs:=h.size
 refine⟨by simpa using hs,?_,?_,fun l hl=> ?_,fun l hl=> ?_,fun l hl=> ?_⟩
 ·rw[Array.getElem?_setIfInBounds_ne (by omega),Array.getElem?_setIfInBounds_ne (by omega),h.lens]
 ·rw[Array.getElem?_setIfInBounds_ne (by omega),Array.getElem?_setIfInBounds_ne (by omega),h.codes]
 ·rw[Array.getElem?_setIfInBounds_ne (by omega),Array.getElem?_setIfInBounds_ne (by omega),h.first l hl]
  unfold gmZ
  rw[ihZ hx h0]
  by_cases e:x=l
  ·subst e;rw[if_neg (by omega),if_neg (by simp)]
  ·rw[if_neg e];rfl
 ·rw[Array.getElem?_setIfInBounds_ne (by omega),Array.getElem?_setIfInBounds,ihZ hx h0]
  by_cases e:x=l
  ·subst e;rw[if_pos rfl,if_pos (by omega),if_pos rfl,hc]
  ·rw[if_neg (by omega),if_neg e,h.many l hl];rfl
 ·rw[Array.getElem?_setIfInBounds]
  unfold upd
  by_cases e:x=l
  ·subst e;rw[if_pos rfl,if_pos (by simp;omega),if_pos rfl]
  ·rw[if_neg (by omega),if_neg (Ne.symm e),Array.getElem?_setIfInBounds_ne (by omega),h.syms l hl]
theorem Cells.fresh{ls:List Nat}{k x:Nat}{vl vc v:Value}{sv:Nat->Value}{cs:Array Value}(h:Cells ls k vl vc sv cs)(hx:ls[k]? =some x)(h0:x≠0)(h15:x<=15)(hc:cn (ls.take k) x=0):
 Cells ls (k+1) vl vc (upd sv x v) (((cs.setIfInBounds (2+x) (.int .i64 (code ls k:Nat))).setIfInBounds (18+x) (.int .i64 ((0+1:Nat):Int))).setIfInBounds (34+x) v):=by
 have hs:=h.size
 have hcode:code ls k=fst ls x:=by
  rw[weZb hx h0]
  unfold cn at hc
  rw[if_neg h0]at hc
  omega
 refine⟨by simpa using hs,?_,?_,fun l hl=> ?_,fun l hl=> ?_,fun l hl=> ?_⟩
 ·rw[Array.getElem?_setIfInBounds_ne (by omega),Array.getElem?_setIfInBounds_ne (by omega),Array.getElem?_setIfInBounds_ne (by omega),h.lens]
 ·rw[Array.getElem?_setIfInBounds_ne (by omega),Array.getElem?_setIfInBounds_ne (by omega),Array.getElem?_setIfInBounds_ne (by omega),h.codes]
 ·rw[Array.getElem?_setIfInBounds_ne (by omega),Array.getElem?_setIfInBounds_ne (by omega),Array.getElem?_setIfInBounds]
  unfold gmZ
  rw[ihZ hx h0]
  by_cases e:x=l
  ·subst e;rw[if_pos rfl,if_pos (by omega),if_neg (by simp),hcode]
  ·rw[if_neg (by omega),h.first l hl,if_neg e];rfl
 ·rw[Array.getElem?_setIfInBounds_ne (by omega),Array.getElem?_setIfInBounds,ihZ hx h0]
  by_cases e:x=l
  ·subst e;rw[if_pos rfl,if_pos (by simp;omega),if_pos rfl,hc]
  ·rw[if_neg (by omega),if_neg e,Array.getElem?_setIfInBounds_ne (by omega),h.many l hl];rfl
 ·rw[Array.getElem?_setIfInBounds]
  unfold upd
  by_cases e:x=l
  ·subst e;rw[if_pos rfl,if_pos (by simp;omega),if_pos rfl]
  ·rw[if_neg (by omega),if_neg (Ne.symm e),Array.getElem?_setIfInBounds_ne (by omega),Array.getElem?_setIfInBounds_ne (by omega),h.syms l hl]
structure Rows (w:World) (base:Nat) (ls:List Nat) (k:Nat) (sv:Nat->Value):Prop where
 own:∀l,l<16->w.ownsRow base 3 1 (sv l) (cn (ls.take k) l) (dZ .i64 (xfZ (ls.take k) l))
 apart:∀l m x,l<16->m<16->l≠m->(sv l).ownBlock=some x->(sv m).ownBlock≠some x
theorem Rows.start(w:World)(base:Nat)(ls:List Nat):Rows w base ls 0 (fun _=> .slice none 0 0):=by
 refine⟨fun l hl=> ?_,fun l m x _ _ _ h=>by cases h⟩
 have h1:cn (ls.take 0) l=0:=by simp[cn,yjZ]
 have h2:xfZ (ls.take 0) l= []:=by unfold xfZ;split<;>rfl
 rw[h1,h2]
 exact World.ownsRow_nil _ _ _ _
theorem Rows.kept{w w':World}{base k:Nat}{ls:List Nat}{sv:Nat->Value}(h:Rows w base ls k sv)(hk:∀l x,l<16->(sv l).ownBlock=some x->w'.heap[x]? =w.heap[x]?):Rows w' base ls k sv:=
 ⟨fun l hl=>fZ (h.own l hl) (fun x hx=>hk l x hl hx),h.apart⟩
theorem Rows.alloc{w:World}{base k:Nat}{ls:List Nat}{sv:Nat->Value}(h:Rows w base ls k sv)(o:Obj):Rows (w.alloc o) base ls k sv:=⟨fun l hl=>(h.own l hl).alloc o,h.apart⟩
theorem Rows.drew{w:World}{base k:Nat}{ls:List Nat}{sv:Nat->Value}(h:Rows w base ls k sv):Rows w.drew base ls k sv:=⟨h.own,h.apart⟩
theorem Rows.set{w:World}{base k g:Nat}{ls:List Nat}{sv:Nat->Value}{t:TypeId}{cs:Array Value}(h:Rows w base ls k sv)(hg:Blk w g t cs)(ht:3≠t)(i:Nat)(u:Value):Rows (w.setCell ⟨g,i,none⟩ u) base ls k sv:=
 h.kept fun l x hl hx=>Below.heap_setCell w _ u x (fun e=>kZ (h.own l hl) hg ht (by rw[hx,e]))
theorem Rows.skip{w:World}{base k:Nat}{ls:List Nat}{sv:Nat->Value}(h:Rows w base ls k sv)(hx:ls[k]? =some 0):Rows w base ls (k+1) sv:=
 ⟨fun l hl=>by rw[fmZ hx,hvZ hx];exact h.own l hl,h.apart⟩
theorem Rows.push{w w3:World}{base k x c g3 cap:Nat}{ls:List Nat}{sv:Nat->Value}(h:Rows w base ls k sv)(hx:ls[k]? =some x)(h0:x≠0)(h15:x<=15)(hc:cn (ls.take k) x=c)
 (hown:w3.ownsRow base 3 1 (.slice (some ⟨g3,0,none⟩) (c+1) cap) (c+1) (dZ .i64 (xfZ (ls.take k) x)++ [.int .i64 (k:Nat)]))(hg:w.grownBy w3 (sv x).ownBlock)(hat:(sv x).ownBlock=some g3∨g3=w.heap.size):
 Rows w3 base ls (k+1) (upd sv x (.slice (some ⟨g3,0,none⟩) (c+1) cap)):=by
 refine⟨fun l hl=> ?_,fun a b y ha hb hab hy=> ?_⟩
 ·rw[ihZ hx h0,gvZ hx h0]
  unfold upd
  by_cases e:l=x
  ·subst e
   rw[if_pos rfl,if_pos rfl,if_pos rfl,hc]
   simpa[dZ]using hown
  ·rw[if_neg e,if_neg (Ne.symm e),if_neg (Ne.symm e),List.append_nil]
   refine(h.own l hl).kept hg ?_
   cases hb:(sv l).ownBlock with
   |none=>exact .inl rfl
   |some y=>exact .inr (fun e2=>h.apart l x y hl (by omega) e hb e2.symm)
 ·unfold upd at hy ⊢
  by_cases e1:a=x
  ·subst e1
   rw[if_pos rfl]at hy
   rw[if_neg (Ne.symm hab)]
   have hy:g3=y:=by simpa[Value.ownBlock]using hy
   subst hy
   rcases hat with h1|h1
   ·exact h.apart a b g3 ha hb hab h1
   ·intro h2
    have:=(World.ownsRow.lt (h.own b hb) g3 h2).2
    omega
  ·rw[if_neg e1]at hy
   by_cases e2:b=x
   ·subst e2
    rw[if_pos rfl]
    intro h2
    have h2:g3=y:=by simpa[Value.ownBlock]using h2
    subst h2
    rcases hat with h1|h1
    ·exact h.apart a b g3 ha hb hab hy h1
    ·have:=(World.ownsRow.lt (h.own a ha) g3 hy).2
     omega
   ·rw[if_neg e2]
    exact h.apart a b y ha hb hab hy
end Go.Proofs.YtmlaajebadfkoaaGreatDoor.Huff
namespace Go.Proofs.YtmlaajebadfkoaaGreatDoor.Huff
open Go.RowKit Mem Canon Own
def RowIn(w:World)(lo B:Nat)(A:Option Addr)(n s:Nat)(f:Nat->Nat->Value):Prop:=
 0<n->∃b off,A=some ⟨b,off,none⟩/\(lo<=b/\b<B)/\∀i j,i<n->j<s->w.cell? ⟨b,off+(i*s+j),none⟩=some (f i j)
section
variable {w w':World} {lo lo' B B' n s:Nat} {A:Option Addr} {f g:Nat->Nat->Value}
theorem RowIn.row(h:RowIn w lo B A n s f):Row w B A n s f:=fun hn=>by
 obtain⟨b,off,e,hb,hc⟩:=h hn
 exact⟨b,off,e,hb.2,hc⟩
theorem RowIn.keep(h:RowIn w lo B A n s f)(hk:∀p:Addr,lo<=p.block->p.block<B->w'.cell? p=w.cell? p):RowIn w' lo B A n s f:=fun hn=>by
 obtain⟨b,off,e,hb,hc⟩:=h hn
 exact⟨b,off,e,hb,fun i j hi hj=>(hk _ hb.1 hb.2).trans (hc i j hi hj)⟩
theorem RowIn.mono(h:RowIn w lo B A n s f)(hl:lo'<=lo)(hB:B<=B'):RowIn w lo' B' A n s f:=fun hn=>by
 obtain⟨b,off,e,hb,hc⟩:=h hn
 exact⟨b,off,e,⟨by omega,by omega⟩,hc⟩
theorem RowIn.of_own{base:Nat}{e:TypeId}{v:Value}{xs:List Value}{c:Nat}(h:w.ownsRow base e s v n xs)(hv:v= .slice A n c)(hf:∀i j,i<n->j<s->xs[i*s+j]? =some (f i j)):RowIn w base w.heap.size A n s f:=fun hn=>by
 rcases h.2 with ⟨_,h0⟩|⟨g,cap,cur,hv',hb,hh,hnc,_,hcs,htake⟩
 ·omega
 ·rw[hv]at hv'
  injection hv' with e1 e2 e3
  refine⟨g,0,e1,⟨hb,Blk.lt hh⟩,fun i j hi hj=> ?_⟩
  rw[Nat.zero_add,Blk.cell hh]
  have:=hf i j hi hj
  rw[<-htake,List.getElem?_take]at this
  split at this
  ·simpa using this
  ·cases this
theorem RowIn.of_blk{t:TypeId}{cs:Array Value}{b:Nat}(h:Blk w b t cs)(hl:lo<=b)(hB:b<B)(hf:∀i j,i<n->j<s->cs[i*s+j]? =some (f i j)):RowIn w lo B (some ⟨b,0,none⟩) n s f:=
 fun _=>⟨b,0,rfl,⟨hl,hB⟩,fun i j hi hj=>by rw[Nat.zero_add,h.cell];exact hf i j hi hj⟩
end
theorem rgZ{k:IntKind}{ls:List Nat}{i:Nat}(h:i<ls.length):(dZ k ls)[i*1+0]? =some (rZ k ls i 0):=by
 simp[dZ,rZ,List.getD_eq_getElem?_getD,h]
structure Coder (w:World) (lo B g:Nat) (ls:List Nat):Prop where
 ge:lo<=g
 lt:g<B
 free:∀i,w.frozen? ⟨g,i,none⟩=false
 lens:∃A c,w.cell? ⟨g,0,none⟩=some (.slice A ls.length c)/\RowIn w lo B A ls.length 1 (rZ .u8 ls)
 codes:∃A c,w.cell? ⟨g,1,none⟩=some (.slice A ls.length c)/\RowIn w lo B A ls.length 1 (fun i _=> .int .u16 (xdZ ls i:Nat))
 first:∀l,l<16->w.cell? ⟨g,2+l,none⟩=some (.int .i64 (gmZ ls ls.length l:Nat))
 many:∀l,l<16->w.cell? ⟨g,18+l,none⟩=some (.int .i64 (cn ls l:Nat))
 syms:∀l,l<16->∃A c,w.cell? ⟨g,34+l,none⟩=some (.slice A (cn ls l) c)/\RowIn w lo B A (cn ls l) 1 (rZ .i64 (xfZ ls l))
theorem Coder.keep{w w':World}{lo B g:Nat}{ls:List Nat}(h:Coder w lo B g ls)(hk:∀b,lo<=b->b<B->w'.heap[b]? =w.heap[b]?):Coder w' lo B g ls:=by
 have hg:=hk g h.ge h.lt
 have hc:∀p:Addr,lo<=p.block->p.block<B->w'.cell? p=w.cell? p:=fun p h1 h2=>World.cell?_of_block (hk p.block h1 h2)
 have hc0:∀i,w'.cell? ⟨g,i,none⟩=w.cell? ⟨g,i,none⟩:=fun i=>World.cell?_of_block (a:=⟨g,i,none⟩) hg
 refine⟨h.ge,h.lt,fun i=>(World.frozen?_of_block (a:=⟨g,i,none⟩) hg).trans (h.free i),?_,?_,fun l hl=>(hc0 _).trans (h.first l hl),fun l hl=>(hc0 _).trans (h.many l hl),fun l hl=> ?_⟩
 ·obtain⟨A,c,h1,h2⟩:=h.lens
  exact⟨A,c,(hc0 _).trans h1,h2.keep hc⟩
 ·obtain⟨A,c,h1,h2⟩:=h.codes
  exact⟨A,c,(hc0 _).trans h1,h2.keep hc⟩
 ·obtain⟨A,c,h1,h2⟩:=h.syms l hl
  exact⟨A,c,(hc0 _).trans h1,h2.keep hc⟩
theorem ymZb{w w2 wr:World}{lo g gc n c2:Nat}{ls:List Nat}{A2:Option Addr}{sv:Nat->Value}{cs arr:Array Value}(hn:ls.length=n)(hlo:lo<=w.heap.size)(z1:w.heap.size<=g)(hg:g=w2.heap.size)
 (blk:Blk wr g 338 cs)(hC:Cells ls n (.slice A2 n c2) (.slice (some ⟨gc,0,none⟩) n n) sv cs)(hR:Rows wr (g+1) ls n sv)(rbel:Below g w2 wr)
 (hown2:w2.ownsRow w.heap.size 5 1 (.slice A2 n c2) n (dZ .u8 ls))(bc2:Blk w2 gc 263 arr)(hgc:lo<=gc)(hW:Wds ls n n arr):Coder wr lo wr.heap.size g ls:=by
 subst hn hg
 have rz:=rbel.size
 have htk:ls.take ls.length=ls:=List.take_of_length_le (Nat.le_refl _)
 refine⟨by omega,blk.lt,blk.frozen,⟨A2,c2,(blk.cell 0).trans hC.lens,?_⟩,⟨some ⟨gc,0,none⟩,ls.length,(blk.cell 1).trans hC.codes,?_⟩,fun l hl=>(blk.cell _).trans (hC.first l hl),fun l hl=> ?_,fun l hl=> ?_⟩
 ·have:=RowIn.of_own (f:=rZ .u8 ls) hown2 rfl (fun i j hi hj=>by have e0:j=0:=(by omega);subst e0;exact rgZ hi)
  exact(this.keep (fun p _ h2=>rbel.cell h2)).mono hlo rz
 ·have:=RowIn.of_blk (n:=ls.length) (s:=1) (lo:=lo) (B:=w2.heap.size) (f:=fun i _=> .int .u16 (xdZ ls i:Nat)) bc2 hgc bc2.lt (fun i j hi hj=>by
   obtain rfl:j=0:=by omega
   rw[Nat.mul_one,Nat.add_zero,hW.2 i hi,if_pos hi])
  exact(this.keep (fun p _ h2=>rbel.cell h2)).mono (Nat.le_refl _) rz
 ·have:=hC.many l hl
  rw[htk]at this
  exact(blk.cell _).trans this
 ·have h1:=hR.own l hl
  rw[htk]at h1
  obtain⟨A,c,e⟩:=bZ h1
  have h2:=hC.syms l hl
  rw[e]at h2
  refine⟨A,c,(blk.cell _).trans h2,?_⟩
  exact(RowIn.of_own (f:=rZ .i64 (xfZ ls l)) h1 e (fun i j hi hj=>by have e0:j=0:=(by omega);subst e0;exact rgZ (by rw[ibZb];exact hi))).mono (by omega) (Nat.le_refl _)
end Go.Proofs.YtmlaajebadfkoaaGreatDoor.Huff
namespace Go.Proofs.YtmlaajebadfkoaaGreatDoor.Huff
open Go.RowKit Mem Canon Own
theorem info_int:(Tryz.prog.info? 3).map (fun i=>(i.zero,i.size,i.bytes))=some (some (.int .i64 0),1,8):=by kernel_rfl
def ifZb(ls:List Nat)(w:World)(e:Ending)(w':World):Prop:=
 ∃g,e= .returned (.tuple #[.pointer (some ⟨g,0,none⟩), .int .i64 0])/\Coder w' w.heap.size w'.heap.size g ls/\Below w.heap.size w w'
theorem vpZb(w:World)(A:Option Addr)(n c:Nat)(ls:List Nat)(hn:ls.length=n)(hok:okB ls=true)(hnil:A=none->n=0/\c=0)(ha:Row w w.heap.size A n 1 (rZ .u8 ls)):
 Calls Tryz.prog 276 #[.slice A n c] w (ifZb ls w):=by
 obtain⟨hlen,hsm,_⟩:=ok_parts hok
 rw[hn]at hlen
 have C1:=hid (tjZb w A n c ls hn hok ha)
 have C2:=hid (fun wx (h:Row wx wx.heap.size A n 1 (rZ .u8 ls))=>muZ wx A n c ls hn (by omega) hnil h)
 have HN:=hid hn
 have HSM:=hid hsm
 have HOK:=hid hok
 obtain⟨j0,hj0,hy0,hy1,hy2⟩:=info_parts info_int
 clear hn hok hsm hnil
 go_enter Tryz.func276,Tryz.ntmps276
 go_wp2_with fail
 refine C1.out.mono ?_
 rintro e w1 ⟨gc,arr,rfl,bc,hw,hgc,hb1⟩
 have z1:=hb1.size
 go_wp2_with fail
 refine(C2.out _ ((ha.below hb1).mono z1)).mono ?_
 rintro e w2 ⟨vl,rfl,hown2,hb2⟩
 have z2:=hb2.size
 have bc2:=bc.step hb2
 have hbel2:Below w.heap.size w w2:=gZ hb2 z1 hb1
 have HW:=hid hw
 have hgc2:=bc2.lt
 have ha2:=(ha.below hbel2).mono hbel2.size
 clear hw bc C1 C2
 obtain⟨A2,c2,rfl⟩:=bZ hown2
 go_wp2_with fail
 go_loopw [25] (fun i wr=>∃ (k:Nat) (sv:Nat->Value) (cs:Array Value),k<=n/\i= .int .i64 k/\Blk wr w2.heap.size 338 cs/\Hid (Cells ls k (.slice A2 n c2) (.slice (some ⟨gc,0,none⟩) n n) sv cs)/\Hid (Rows wr (w2.heap.size+1) ls k sv)/\Below w2.heap.size w2 wr) (fun i _=>n-(intOf i).toNat)
 case atStart=>exact⟨0,_,_,by omega,rfl,Blk.made _ _ _,Cells.start ls _ _,Rows.start _ _ _,aZ (Below.refl _ _)⟩
 case round=>
  obtain⟨k,sv,cs,hk,rfl,blk,hC,hR,rbel⟩:=hrel
  have rz:=rbel.size
  by_cases hlt:k<n
  ·obtain⟨b,off,x,rfl,hbb,hx,c0⟩:=bbZ (ha2.below rbel) HN.out hlt
   have HX:=hid hx
   have hx15:=HSM.out x (List.mem_of_getElem? hx)
   have x0:(0:Int)<=(k:Int):=by omega
   have x1:(k:Int)<(n:Int):=by omega
   clear hx
   by_cases hx0:x=0
   ·subst hx0
    go_wp2_with fail
    go_roundw
    case rel=>
     go_light
     exact⟨k+1,sv,cs,by omega,by go_num,blk,hC.out.skip HX.out,hR.out.skip HX.out,rbel⟩
    case measure=>go_light;simp[intOf];omega
   ·have hcn:=rrZ (ls.take k) x
    rw[List.length_take]at hcn
    have xp:0<x:=by omega
    have y0:(0:Int)<=(x:Int):=by omega
    have y1:(x:Int)<16:=by omega
    have m0:=blk.cell (18+x)
    rw[hC.out.many x (by omega)]at m0
    obtain⟨q,hq⟩:∃q,q=cn (ls.take k) x:=⟨_,rfl⟩
    rw[<-hq]at m0 hcn
    have HQ:=hid hq
    clear hq
    by_cases hq0:q=0
    ·have hqt:((q:Int)==0)=true:=by simp;omega
     have HQ0:=hid hq0
     clear hq0
     have d0:=(bc2.below rbel hgc2).cell k
     rw[HW.out.2 k hlt,if_pos hlt]at d0
     have f0:=blk.frozen (2+x)
     have f1:=blk.cell (2+x)
     rw[hC.out.first x (by omega)]at f1
     have hcl:=lwZ HOK.out HX.out hx0
     have hcl2:code ls k<65536:=Nat.lt_of_lt_of_le hcl (by have:2 ^ x<=2 ^ 15:=Nat.pow_le_pow_right (by omega) hx15;omega)
     have hv:xdZ ls k=code ls k:=Nat.mod_eq_of_lt hcl2
     have hcells:=fun v=>hC.out.fresh (v:=v) HX.out hx0 hx15 (HQ.out.symm.trans HQ0.out)
     rw[hv]at d0
     generalize code ls k=v at *
     have HCS:=hid hcells
     clear hv hcells hcl
     go_upto_region 10 with fail
     go_region
     have blkA:=(blk.set (2+x) (.int .i64 (v:Nat))).drew
     have HCS2:Hid (∀v',Cells ls (k+1) (.slice A2 n c2) (.slice (some ⟨gc,0,none⟩) n n) (upd sv x v') (((cs.setIfInBounds (2+x) (.int .i64 (v:Nat))).setIfInBounds (18+x) (.int .i64 ((q:Int)+1))).setIfInBounds (34+x) v')):=by
      rw[HQ0.out];exact HCS.out
     clear HCS
     have mcell:(cs.setIfInBounds (2+x) (.int .i64 (v:Nat)))[18+x]? =some (.int .i64 ((q:Nat):Int)):=by
      rw[Array.getElem?_setIfInBounds_ne (by omega),hC.out.many x (by omega),<-HQ.out]
     have scell:(cs.setIfInBounds (2+x) (.int .i64 (v:Nat)))[34+x]? =some (sv x):=by
      rw[Array.getElem?_setIfInBounds_ne (by omega),hC.out.syms x (by omega)]
     have RA:=hid ((hR.out.set blk (by decide) (2+x) (.int .i64 (v:Nat))).drew)
     have belA:=(jZ (p:=⟨w2.heap.size,2+x,none⟩) (u:= .int .i64 (v:Nat)) (Nat.le_refl _) rbel).drew
     have zA:=belA.size
     clear m0 f0 f1 d0 c0 blk rbel rz
     generalize cs.setIfInBounds (2+x) (.int .i64 (v:Nat))=csA at *
     generalize (wr.setCell ⟨w2.heap.size,2+x,none⟩ (.int .i64 (v:Nat))).drew=wA at *
     have mA:=blkA.cell (18+x)
     rw[mcell]at mA
     have fA:=blkA.frozen (18+x)
     have s1:IntKind.i64.wrap ((q:Int)+1)=(q:Int)+1:=IntWalk.i64_in _ (by omega)
     go_upto_region 11 with fail
     go_region
     clear s1 mA fA
     have blkB:=(blkA.set (18+x) (.int .i64 ((q:Int)+1))).drew
     have RB:=hid ((RA.out.set blkA (by decide) (18+x) (.int .i64 ((q:Int)+1))).drew)
     have belB:=(jZ (p:=⟨w2.heap.size,18+x,none⟩) (u:= .int .i64 ((q:Int)+1)) (Nat.le_refl _) belA).drew
     have zB:=belB.size
     have sB:=blkB.cell (34+x)
     rw[Array.getElem?_setIfInBounds_ne (by omega),scell]at sB
     have fB:=blkB.frozen (34+x)
     have hown:=RB.out.own x (by omega)
     rw[<-HQ.out]at hown
     have hne:=kZ hown blkB (by decide)
     obtain⟨AS,cS,hsv⟩:=bZ hown
     have HSV:=hid hsv
     rw[hsv]at sB hown hne
     clear mcell scell blkA RA belA zA hsv
     generalize (wA.setCell ⟨w2.heap.size,18+x,none⟩ (.int .i64 ((q:Int)+1))).drew=wB at *
     have hgl:=blkB.lt
     have hne2:some w2.heap.size≠(Value.slice AS q cS).ownBlock:=Ne.symm hne
     go_upto_region 12 with fail
     go_region_law((refine step_append_lies _ (by rfl) _ _ _ (by rfl) (w2.heap.size+1) 3 j0 _ 1 8 Tryz.underlying38 hj0 hy0 hy1 hy2 rfl (by omega) (.slice AS q cS) q (dZ .i64 (xfZ (ls.take k) x)) (by rfl) ((hown.alloc _).drew) ⟨wB.heap.size,0,none⟩ 1 1 [.int .i64 (k:Nat)] (by rfl) (by rfl) (World.news_of_block (cs:=#[.int .i64 (k:Nat)]) (t:=3) (fr:=(0,0)) (heap_alloc_new wB _)) (by intro u hu;simp at hu;subst hu;rfl) (by omega) (by unfold maxLen;omega) (by omega) (by simp;omega) (wB.heap.size+1) (by simp) ?_;intro g3 cap3 w3 hown3 hgrow hat hlt3;have gb:w3.heap[w2.heap.size]? =wB.heap[w2.heap.size]? :=(hgrow.block w2.heap.size (by simp;omega) hne2).trans (Below.heap_alloc wB _ w2.heap.size hgl);have p3:=(World.cell?_of_block (a:=⟨w2.heap.size,34+x,none⟩) gb).trans sB;have p4:=(World.frozen?_of_block (a:=⟨w2.heap.size,34+x,none⟩) gb).trans fB))
     all_goals
      go_wp2_with fail
      go_roundw
      case measure=>go_light;simp[intOf];omega
      case rel=>
       go_light
       have blk3:Blk w3 w2.heap.size 338 _:=gb.trans blkB
       have hR3:=Rows.push ((RB.out.alloc _).drew) HX.out hx0 hx15 HQ.out.symm hown3 (by rw[HSV.out];exact hgrow) (by rw[HSV.out];simpa using hat)
       refine⟨k+1,_,_,by omega,by go_num,blk3.set _ _,HCS2.out _,hR3.set blk3 (by decide) _ _,jZ (p:=⟨w2.heap.size,34+x,none⟩) (Nat.le_refl _) (((eZ zB belB).drew).grown hgrow (by simp;omega) (fun y hy=> ?_))⟩
       have:=(World.ownsRow.lt hown y hy).1
       omega
    ·have hqf:((q:Int)==0)=false:=by simp;omega
     have hcells:=fun v=>hC.out.next (v:=v) HX.out hx0 hx15 HQ.out.symm hq0
     have HCS2:Hid (∀v',Cells ls (k+1) (.slice A2 n c2) (.slice (some ⟨gc,0,none⟩) n n) (upd sv x v') ((cs.setIfInBounds (18+x) (.int .i64 ((q:Int)+1))).setIfInBounds (34+x) v')):=hcells
     have mcell:cs[18+x]? =some (.int .i64 ((q:Nat):Int)):=by rw[hC.out.many x (by omega),<-HQ.out]
     have scell:=hC.out.syms x (by omega)
     have RA:=hR
     have belA:=rbel
     have zA:=rz
     have blkA:=blk
     obtain⟨wA,rfl⟩:∃wA:World,wA=wr:=⟨_,rfl⟩
     clear blk rbel rz hcells hq0
     have mA:=blkA.cell (18+x)
     rw[mcell]at mA
     have fA:=blkA.frozen (18+x)
     have s1:IntKind.i64.wrap ((q:Int)+1)=(q:Int)+1:=IntWalk.i64_in _ (by omega)
     go_upto_region 11 with fail
     go_region
     clear s1 mA fA
     have blkB:=(blkA.set (18+x) (.int .i64 ((q:Int)+1))).drew
     have RB:=hid ((RA.out.set blkA (by decide) (18+x) (.int .i64 ((q:Int)+1))).drew)
     have belB:=(jZ (p:=⟨w2.heap.size,18+x,none⟩) (u:= .int .i64 ((q:Int)+1)) (Nat.le_refl _) belA).drew
     have zB:=belB.size
     have sB:=blkB.cell (34+x)
     rw[Array.getElem?_setIfInBounds_ne (by omega),scell]at sB
     have fB:=blkB.frozen (34+x)
     have hown:=RB.out.own x (by omega)
     rw[<-HQ.out]at hown
     have hne:=kZ hown blkB (by decide)
     obtain⟨AS,cS,hsv⟩:=bZ hown
     have HSV:=hid hsv
     rw[hsv]at sB hown hne
     clear mcell scell blkA RA belA zA hsv
     generalize (wA.setCell ⟨w2.heap.size,18+x,none⟩ (.int .i64 ((q:Int)+1))).drew=wB at *
     have hgl:=blkB.lt
     have hne2:some w2.heap.size≠(Value.slice AS q cS).ownBlock:=Ne.symm hne
     go_upto_region 12 with fail
     go_region_law((refine step_append_lies _ (by rfl) _ _ _ (by rfl) (w2.heap.size+1) 3 j0 _ 1 8 Tryz.underlying38 hj0 hy0 hy1 hy2 rfl (by omega) (.slice AS q cS) q (dZ .i64 (xfZ (ls.take k) x)) (by rfl) ((hown.alloc _).drew) ⟨wB.heap.size,0,none⟩ 1 1 [.int .i64 (k:Nat)] (by rfl) (by rfl) (World.news_of_block (cs:=#[.int .i64 (k:Nat)]) (t:=3) (fr:=(0,0)) (heap_alloc_new wB _)) (by intro u hu;simp at hu;subst hu;rfl) (by omega) (by unfold maxLen;omega) (by omega) (by simp;omega) (wB.heap.size+1) (by simp) ?_;intro g3 cap3 w3 hown3 hgrow hat hlt3;have gb:w3.heap[w2.heap.size]? =wB.heap[w2.heap.size]? :=(hgrow.block w2.heap.size (by simp;omega) hne2).trans (Below.heap_alloc wB _ w2.heap.size hgl);have p3:=(World.cell?_of_block (a:=⟨w2.heap.size,34+x,none⟩) gb).trans sB;have p4:=(World.frozen?_of_block (a:=⟨w2.heap.size,34+x,none⟩) gb).trans fB))
     all_goals
      go_wp2_with fail
      go_roundw
      case measure=>go_light;simp[intOf];omega
      case rel=>
       go_light
       have blk3:Blk w3 w2.heap.size 338 _:=gb.trans blkB
       have hR3:=Rows.push ((RB.out.alloc _).drew) HX.out hx0 hx15 HQ.out.symm hown3 (by rw[HSV.out];exact hgrow) (by rw[HSV.out];simpa using hat)
       refine⟨k+1,_,_,by omega,by go_num,blk3.set _ _,HCS2.out _,hR3.set blk3 (by decide) _ _,jZ (p:=⟨w2.heap.size,34+x,none⟩) (Nat.le_refl _) (((eZ zB belB).drew).grown hgrow (by simp;omega) (fun y hy=> ?_))⟩
       have:=(World.ownsRow.lt hown y hy).1
       omega
  ·obtain rfl:k=n:=by omega
   go_wp2_with fail
   go_ret2
   exact⟨w2.heap.size,rfl,ymZb HN.out z1 z2 rfl blk hC.out hR.out rbel hown2 bc2 hgc HW.out,hbel2.trans (rbel.mono hbel2.size)⟩
end Go.Proofs.YtmlaajebadfkoaaGreatDoor.Huff
namespace Go.Proofs.YtmlaajebadfkoaaGreatDoor.Huff
open Go.RowKit Mem Canon Own
theorem Coder.len{w:World}{lo B gc:Nat}{ls:List Nat}(hC:Coder w lo B gc ls)(hsm:∀x∈ls,x<=15)(s:Int)(hs: -9223372036854775808<=s/\s<=9223372036854775807):
 Calls Tryz.prog 277 #[.pointer (some ⟨gc,0,none⟩), .int .i64 s] w fun e w'=>e= .returned (.int .i64 (afZ ls s:Nat))/\w=w':=by
 obtain⟨A,c,h1,h2⟩:=hC.lens
 exact kqZb w gc B A ls.length c ls s rfl hs (fun x hx=>by have:=hsm x hx;omega) h1 h2.row
theorem Coder.drew{w:World}{lo B g:Nat}{ls:List Nat}(h:Coder w lo B g ls):Coder w.drew lo B g ls:=h.keep fun _ _ _=>rfl
theorem Coder.kept{K:Nat->Prop}{w w':World}{lo B g:Nat}{ls:List Nat}(h:Coder w lo B g ls)(hk:Kept K w w')(hK:∀k,lo<=k->k<B->K k):Coder w' lo B g ls:=h.keep fun b h1 h2=>hk.block b (hK b h1 h2)
theorem fpZ(K:Nat->Prop)(w:World)(lo B gc:Nat)(ls:List Nat)(g base:Nat)(t:TypeId)(rest:List Value)(v:Value)(bs:List Bool)(s:Int)(hs: -9223372036854775808<=s/\s<=9223372036854775807)
 (hok:okB ls=true)(hC:Coder w lo B gc ls)(hK:∀k,lo<=k->k<B->K k)(h0:afZ ls s≠0)(hle:bs.length<=5000000)(hW:Wr K w base g t rest bs v):
 Calls Tryz.prog 239 #[.pointer (some ⟨gc,0,none⟩), .pointer (some ⟨g,0,none⟩), .int .i64 s] w
  fun e w'=>e= .returned (.int .i64 0)/\∃v',Wr K w' base g t rest (bs++word ls s.toNat) v'/\Kept K w w':=by
 obtain⟨hlen,hsm,_⟩:=ok_parts hok
 obtain⟨m,x,rfl,hx,hx0⟩:=azZ h0
 have hx15:=hsm x (List.mem_of_getElem? hx)
 have hm:=(List.getElem?_eq_some_iff.1 hx).1
 have hl:afZ ls (m:Int)=x:=by unfold afZ;rw[if_neg (by omega)];simp[List.getD_eq_getElem?_getD,hx]
 have hword:word ls m=msb (code ls m) x x:=by unfold word;simp[List.getD_eq_getElem?_getD,hx]
 have hcl:=lwZ hok hx hx0
 have hcl2:code ls m<65536:=Nat.lt_of_lt_of_le hcl (by have:2 ^ x<=2 ^ 15:=Nat.pow_le_pow_right (by omega) hx15;omega)
 have hcw:xdZ ls m=code ls m:=Nat.mod_eq_of_lt hcl2
 have C1:=hid (hC.len hsm (m:Int) hs)
 have C2:=hid (hC.drew.len hsm (m:Int) hs)
 have C3:=hid (put_any K w.drew g base t rest v bs (code ls m) x hcl (by omega) (by omega) hW.drew)
 rw[hl]at C1 C2
 rw[<-hword]at C3
 rw[Int.toNat_natCast]
 obtain⟨AC,cC,d0,hrow⟩:=hC.codes
 obtain⟨bC,oC,rfl,hbC,hcell⟩:=hrow (by omega)
 have KG:Hid (K gc):=hK gc hC.ge hC.lt
 have KB:Hid (K bC):=hK bC hbC.1 hbC.2
 have d1:w.cell? ⟨bC,oC+m,none⟩=some (.int .u16 (code ls m:Nat)):=by
  have:=hcell m 0 hm (by omega)
  simpa[hcw]using this
 generalize code ls m=cd at *
 generalize ls.length=n at *
 clear hsm hok hx hl hword hcl hcw hcell hrow hC h0 hW hbC hK
 go_enter Tryz.func239,Tryz.ntmps239
 go_wp2_with fail
 refine C1.out.mono ?_
 rintro e w1 ⟨rfl,rfl⟩
 have x0:(0:Int)<=(m:Int):=by omega
 have x1:(m:Int)<(n:Int):=by omega
 have hu:IntKind.u64.wrap (cd:Int)=(cd:Int):=by rw[IntKind.wrap_u64];omega
 rw[<-hu]at C3
 clear hu
 go_upto_region 5 with fail
 go_region_held3 (fun wx=>wx.cell? ⟨gc,1,none⟩=some (.slice (some ⟨bC,oC,none⟩) n cC)/\wx.cell? ⟨bC,oC+m,none⟩=some (.int .u16 cd)) (first|exact⟨d0,d1⟩|exact⟨k0,k1⟩) (first|(go_at_call 277;(with_reducible refine C2.out.mono ?_);rintro e w' ⟨rfl,rfl⟩)|(go_at_call 200;(with_reducible refine C3.out.mono ?_);rintro e w' ⟨rfl,v2,hW2,hk2⟩;have k0:w'.cell? ⟨gc,1,none⟩=some (.slice (some ⟨bC,oC,none⟩) n cC):=(World.cell?_of_block (a:=⟨gc,1,none⟩) (hk2.block gc KG.out)).trans d0;have k1:w'.cell? ⟨bC,oC+m,none⟩=some (.int .u16 cd):=(World.cell?_of_block (a:=⟨bC,oC+m,none⟩) (hk2.block bC KB.out)).trans d1))
 have HW2:=hid hW2
 have HK2:=hid hk2
 clear hW2 hk2 k0 k1 C1 C2 C3
 go_wp2_with fail
 go_ret
 exact⟨rfl,v2,HW2.out,(Kept.refl K w).drew.trans HK2.out⟩
end Go.Proofs.YtmlaajebadfkoaaGreatDoor.Huff
namespace Go.Proofs.YtmlaajebadfkoaaGreatDoor.Huff
open Go.RowKit Mem Canon Own
theorem psZ(K:Nat->Prop)(w:World)(g base:Nat)(v:Value)(bs:List Bool)(A:Option Addr)(n c:Nat)(ls:List Nat)(hn:ls.length=n)(hN:n<=9223372036854775807)(hok:okB ls=true)(hKA:0<n->∀p,A=some p->K p.block)(ha:Row w w.heap.size A n 1 (rZ .u8 ls))(hle:bs.length+10*n<=5000000)(hW:RW K w base g bs v):
 Calls Tryz.prog 248 #[.pointer (some ⟨g,0,none⟩), .slice A n c] w fun e w'=>e= .returned (.int .i64 0)/\∃v',RW K w' base g (bs++cdZ ls) v'/\Kept K w w':=by
 have hE:jeZ ls=0:=by unfold jeZ;rw[if_pos hok]
 have C0:=refcheck_any w A n c ls hn hN ha
 rw[hE]at C0
 have C0:=hid C0
 obtain⟨_,hsm,_⟩:=ok_parts hok
 have HN:=hid hn
 have HSM:=hid hsm
 have HLE:=hid hle
 have HW:=hid hW
 have HA:=hid ha
 have HKA:=hid hKA
 clear hn hok hE hsm hle hW ha hKA
 go_enter Tryz.func248,Tryz.ntmps248
 go_wp2_with fail
 refine C0.out.mono ?_
 rintro e w1 ⟨rfl,rfl⟩
 go_wp2_with fail
 go_loopw [5] (fun i wr=>∃ (k:Nat) (v:Value) (b:List Bool),k<=n/\i= .int .i64 k/\Hid (RW K wr base g b v)/\Hid (b++vfZ ls n k=bs++cdZ ls)/\Hid (b.length<=bs.length+10*k)/\Hid (Kept K w wr)) (fun i _=>n-(intOf i).toNat)
 case atStart=>exact⟨0,v,bs,by omega,rfl,HW.out,by show _=_;unfold cdZ;rw[HN.out],by show _<=_;omega,Kept.refl _ _⟩
 case round=>
  clear HW
  obtain⟨k,v1,b1,hk,rfl,HW,HG,HL,HK⟩:=hrel
  have hg0:=HG.out
  have hl0:=HL.out
  have hle0:=HLE.out
  by_cases hlt:k<n
  ·obtain⟨ob,off,x,rfl,hbb,hx,c0⟩:=bbZ HA.out HN.out hlt
   have KOB:=hid (HKA.out (by omega) _ rfl)
   simp only at KOB
   have c1:=(World.cell?_of_block (a:=⟨ob,off+k,none⟩) (HK.out.block ob KOB.out)).trans c0
   have hx15:=HSM.out x (List.mem_of_getElem? hx)
   have y0:(0:Int)<=(k:Int):=by omega
   have y1:(k:Int)<(n:Int):=by omega
   have hgx:ls.getD k 0=x:=by rw[List.getD_eq_getElem?_getD,hx];rfl
   have hst:vfZ ls n k=vfZ ls (n-k-1+1) k:=jgZ ls _ _ _ (by have:=HN.out;omega) (by have:=HN.out;omega)
   rw[hst]at hg0
   unfold vfZ at hg0
   rw[HN.out,if_pos hlt,hgx]at hg0
   have D:=hid (rput_any K wr g base v1 b1 x 4 (by omega) (by omega) (by omega) HW.out)
   have s1:IntKind.u64.wrap (x:Int)=(x:Int):=by rw[IntKind.wrap_u64];omega
   by_cases h0:x=0
   ·subst h0
    rw[if_pos rfl]at hg0
    have hr0:=ymZ ls 64 k (by have:=HN.out;omega)
    have hx0:ls[k]? =some 0:=hx
    have hrp:1<=ddZ ls k 64:=by have:=emZ hx0 63;show 1<=ddZ ls k (63+1);omega
    have hr64:=pwZ ls 64 k
    rw[HN.out]at hr0
    rw[jgZ ls (n-k-1) n (k+ddZ ls k 64) (by have:=HN.out;omega) (by have:=HN.out;omega)]at hg0
    have HG0:=hid hg0
    have HX0:=hid hx0
    clear hg0 hx c0 hgx hst hr0 hx0 hrp hr64 HG hle0 hl0 HW
    go_wp2_with fail
    refine D.out.mono ?_
    rintro e w2 ⟨rfl,v2,hW2,hk2⟩
    have c2:=(World.cell?_of_block (a:=⟨ob,off+k,none⟩) (hk2.block ob KOB.out)).trans c1
    have HW2:=hid hW2
    have HK2:Hid (Kept K w w2):=HK.out.trans hk2
    clear hW2 hk2 D HK c1
    go_wp2_with fail
    go_loopw [5,6] (fun iv rv wx=>∃s:Nat,s<=63/\k+s<n/\iv= .int .i64 ((k:Int)+(s:Int))/\rv= .int .i64 s/\Hid (∀j,j<s+1->ls[k+j]? =some 0)/\wx=w2) (fun _ rv _=>64-(intOf rv).toNat)
    case atStart=>exact⟨0,by omega,by omega,by first|rfl|simp,rfl,(fun j hj=>by obtain rfl:j=0:=(by omega);exact HX0.out),rfl⟩
    case round=>
     obtain⟨s,hs2,hs3,rfl,rfl,hz,rfl⟩:=hrel
     have done:(s+1=64∨ls[k+(s+1)]? ≠some 0)->Hid (ddZ ls k 64=s+1):=fun h=>kyZ (by omega) hz.out h
     have x1:IntKind.i64.wrap ((k:Int)+(s:Int)+1)=(k:Int)+(s:Int)+1:=by rw[IntKind.wrap_i64];omega
     by_cases hB:k+(s+1)<n
     ·obtain⟨_,_,y,e9,_,hy,d0⟩:=bbZ HA.out HN.out hB
      injection e9 with e9
      injection e9 with e8 e7
      subst e8 e7
      have d1:=(World.cell?_of_block (a:=⟨ob,off+(k+(s+1)),none⟩) (HK2.out.block ob KOB.out)).trans d0
      have bf1:decide ((k:Int)+(s:Int)+1<(n:Int))=true:=by simp;omega
      have bf3:(0:Int)<=(k:Int)+(s:Int)+1:=by omega
      have bf4:(k:Int)+(s:Int)+1<(n:Int):=by omega
      have bf5:((k:Int)+(s:Int)+1).toNat=k+(s+1):=by omega
      by_cases hC:y=0
      ·subst hC
       by_cases hA:s<63
       ·have a1:decide ((s:Int)<63)=true:=by simp;omega
        have a2:decide (s<63)=true:=by simpa using hA
        have hz2:Hid (∀j,j<s+1+1->ls[k+j]? =some 0):=by
         intro j hj
         by_cases e:j=s+1
         ·subst e;exact hy
         ·exact hz.out j (by omega)
        have hA2:s+1<=63:=hA
        clear hy d0 done
        go_wp2_with fail
        go_roundw
        case measure=>go_light;simp[intOf];omega
        case rel=>go_light;refine⟨s+1,hA2,hB,by go_num,by go_num,hz2,?_⟩;first|rfl|trivial
       ·have a1:decide ((s:Int)<63)=false:=by simp;omega
        have a2:decide (s<63)=false:=by simpa using hA
        have HZ:=done (.inl (by omega))
        clear hy d0 done
        obtain⟨q,hq⟩:∃q,q=s:=⟨_,rfl⟩
        have x3:IntKind.u64.wrap (s:Int)=(s:Int):=by rw[IntKind.wrap_u64];omega
        have hgz:=HG0.out
        rw[HZ.out,show s+1-1=s by omega,<-List.append_assoc,<-List.append_assoc]at hgz
        have HGZ:=hid hgz
        have D2:=hid (rput_any K wr g base v2 (b1++msb 0 4 4) s 6 (show s<64 by omega) (by omega) (by rw[List.length_append,uZ];have:=HL.out;have:=HLE.out;omega) HW2.out)
        have HL0:Hid ((b1++msb 0 4 4++msb s 6 6).length<=bs.length+10*(k+(s+1))):=by show _<=_;rw[List.length_append,List.length_append,uZ,uZ];have:=HL.out;omega
        clear hq hgz HG0
        go_wp2_with fail
        refine D2.out.mono ?_
        rintro e w3 ⟨rfl,v3,hW3,hk3⟩
        have HW3:=hid hW3
        have HK3:Hid (Kept K w w3):=HK2.out.trans hk3
        clear hW3 hk3 D2
        go_wp2_with fail
        go_roundw
        case measure=>go_light;simp[intOf];omega
        case rel=>go_light;exact⟨k+(s+1),v3,_,by omega,by go_num,HW3.out,HGZ.out,HL0.out,HK3.out⟩
      ·have c5:((y:Int)==0)=false:=by simp;omega
       have HZ:=done (.inr (by rw[hy];simpa using hC))
       clear hy d0 hC done
       obtain⟨q,hq⟩:∃q,q=s:=⟨_,rfl⟩
       have x3:IntKind.u64.wrap (s:Int)=(s:Int):=by rw[IntKind.wrap_u64];omega
       have hgz:=HG0.out
       rw[HZ.out,show s+1-1=s by omega,<-List.append_assoc,<-List.append_assoc]at hgz
       have HGZ:=hid hgz
       have D2:=hid (rput_any K wr g base v2 (b1++msb 0 4 4) s 6 (show s<64 by omega) (by omega) (by rw[List.length_append,uZ];have:=HL.out;have:=HLE.out;omega) HW2.out)
       have HL0:Hid ((b1++msb 0 4 4++msb s 6 6).length<=bs.length+10*(k+(s+1))):=by show _<=_;rw[List.length_append,List.length_append,uZ,uZ];have:=HL.out;omega
       clear hq hgz HG0
       go_wp2_with fail
       refine D2.out.mono ?_
       rintro e w3 ⟨rfl,v3,hW3,hk3⟩
       have HW3:=hid hW3
       have HK3:Hid (Kept K w w3):=HK2.out.trans hk3
       clear hW3 hk3 D2
       go_wp2_with fail
       go_roundw
       case measure=>go_light;simp[intOf];omega
       case rel=>go_light;exact⟨k+(s+1),v3,_,by omega,by go_num,HW3.out,HGZ.out,HL0.out,HK3.out⟩
     ·have bf1:decide ((k:Int)+(s:Int)+1<(n:Int))=false:=by simp;omega
      have HZ:=done (.inr (by rw[List.getElem?_eq_none (by have:=HN.out;omega)];simp))
      clear done
      obtain⟨q,hq⟩:∃q,q=s:=⟨_,rfl⟩
      have x3:IntKind.u64.wrap (s:Int)=(s:Int):=by rw[IntKind.wrap_u64];omega
      have hgz:=HG0.out
      rw[HZ.out,show s+1-1=s by omega,<-List.append_assoc,<-List.append_assoc]at hgz
      have HGZ:=hid hgz
      have D2:=hid (rput_any K wr g base v2 (b1++msb 0 4 4) s 6 (show s<64 by omega) (by omega) (by rw[List.length_append,uZ];have:=HL.out;have:=HLE.out;omega) HW2.out)
      have HL0:Hid ((b1++msb 0 4 4++msb s 6 6).length<=bs.length+10*(k+(s+1))):=by show _<=_;rw[List.length_append,List.length_append,uZ,uZ];have:=HL.out;omega
      clear hq hgz HG0
      go_wp2_with fail
      refine D2.out.mono ?_
      rintro e w3 ⟨rfl,v3,hW3,hk3⟩
      have HW3:=hid hW3
      have HK3:Hid (Kept K w w3):=HK2.out.trans hk3
      clear hW3 hk3 D2
      go_wp2_with fail
      go_roundw
      case measure=>go_light;simp[intOf];omega
      case rel=>go_light;exact⟨k+(s+1),v3,_,by omega,by go_num,HW3.out,HGZ.out,HL0.out,HK3.out⟩
   ·have hxp:0<x:=by omega
    rw[if_neg h0,jgZ ls (n-k-1) n (k+1) (by have:=HN.out;omega) (by have:=HN.out;omega),<-List.append_assoc]at hg0
    have k1:decide (0<x)=true:=by simpa using hxp
    have k2:decide ((0:Int)<(x:Int))=true:=by simpa using hxp
    have HG0:=hid hg0
    have HL0:Hid ((b1++msb x 4 4).length<=bs.length+10*(k+1)):=by show _<=_;rw[List.length_append,uZ];omega
    clear hg0 hl0 hle0 hx c0 hgx hst h0 HG HW HL
    go_wp2_with fail
    refine D.out.mono ?_
    rintro e w2 ⟨rfl,v2,hW2,hk2⟩
    have c2:=(World.cell?_of_block (a:=⟨ob,off+k,none⟩) (hk2.block ob KOB.out)).trans c1
    have HW2:=hid hW2
    have HK2:Hid (Kept K w w2):=HK.out.trans hk2
    clear hW2 hk2 D c1
    go_wp2_with fail
    go_roundw
    case measure=>go_light;simp[intOf];omega
    case rel=>go_light;exact⟨k+1,v2,_,by omega,by go_num,HW2.out,HG0.out,HL0.out,HK2.out⟩
  ·obtain rfl:k=n:=by omega
   rw[siZ ls k k (by have:=HN.out;omega),List.append_nil]at hg0
   have HG0:=hid hg0
   clear hg0 hl0 hle0 HG
   go_wp2_with fail
   go_ret
   rw[<-HG0.out]
   exact⟨rfl,v1,HW.out,HK.out⟩
end Go.Proofs.YtmlaajebadfkoaaGreatDoor.Huff
namespace Go.Proofs.YtmlaajebadfkoaaGreatDoor.Huff
open Go.RowKit Mem Canon Own
structure RCo (w:World) (lo B:Nat) (vl vc:Value) (ls:List Nat):Prop where
 lens:∃A c,vl= .slice A ls.length c/\RowIn w lo B A ls.length 1 (rZ .u8 ls)
 codes:∃A c,vc= .slice A ls.length c/\RowIn w lo B A ls.length 1 (fun i _=> .int .u16 (xdZ ls i:Nat))
theorem RCo.kept{K:Nat->Prop}{w w':World}{lo B:Nat}{vl vc:Value}{ls:List Nat}(h:RCo w lo B vl vc ls)(hk:Kept K w w')(hK:∀k,lo<=k->k<B->K k):RCo w' lo B vl vc ls:=by
 have hc:∀p:Addr,lo<=p.block->p.block<B->w'.cell? p=w.cell? p:=fun p h1 h2=>World.cell?_of_block (hk.block p.block (hK _ h1 h2))
 obtain⟨A,c,e,hr⟩:=h.lens
 obtain⟨A',c',e',hr'⟩:=h.codes
 exact⟨⟨A,c,e,hr.keep hc⟩,⟨A',c',e',hr'.keep hc⟩⟩
def xtZ(ls:List Nat)(w:World)(e:Ending)(w':World):Prop:=
 ∃vl vc,e= .returned (.tuple #[.agg #[vl,vc], .int .i64 0])/\RCo w' w.heap.size w'.heap.size vl vc ls/\Below w.heap.size w w'
theorem xdZb:(Tryz.prog.info? 234).map (·.size)=some 2:=by kernel_rfl
theorem jbZb(w:World)(A:Option Addr)(n c:Nat)(ls:List Nat)(hn:ls.length=n)(hok:okB ls=true)(hnil:A=none->n=0/\c=0)(ha:Row w w.heap.size A n 1 (rZ .u8 ls)):
 Calls Tryz.prog 185 #[.slice A n c] w (xtZ ls w):=by
 obtain⟨j0,hj0,hy0,hy1,hy2⟩:=info_parts hbZ
 obtain⟨hlen,_,_⟩:=ok_parts hok
 rw[hn]at hlen
 have C:=hid (fun wx (h:Row wx wx.heap.size A n 1 (rZ .u8 ls))=>ebZb wx A n c ls hn hok h)
 have HN:=hid hn
 have HNIL:=hid hnil
 clear hn hok hnil
 go_enter Tryz.func185,Tryz.ntmps185
 go_wp2_with fail
 refine(C.out _ ((ha.alloc (Nat.le_refl _) _).mono (by simp))).mono ?_
 rintro e w1 ⟨vc,rfl,hown,hb1⟩
 obtain⟨AC,cC,rfl⟩:=bZ hown
 have z1:=hb1.size
 simp at z1
 have blk1:Blk w1 w.heap.size 234 _:=(Blk.made w _ _).step hb1
 have hgl:=blk1.lt
 have hbel1:Below w.heap.size w w1:=(aZ (Below.refl _ _)).trans (hb1.mono (by simp))
 have hsrc0:=ekZ (c:=c) (ha.below hbel1) HN.out HNIL.out
 have hsrc:Src (w1.alloc (.cells #[] 5)) A n c 1 (dZ .u8 ls):=by
  refine⟨hsrc0.1,?_⟩
  rcases hsrc0.2 with h|⟨ad,h1,h2⟩
  ·exact .inl h
  ·refine .inr ⟨ad,h1,fun j u hu=> ?_⟩
   have hc:=h2 j u hu
   exact(World.cell?_of_block (Below.heap_alloc w1 _ _ (World.block_lt_of_cell? _ _ hc))).trans hc
 have hown0:(w1.alloc (.cells #[] 5)).ownsRow w1.heap.size 5 1 (.slice (some ⟨w1.heap.size,0,none⟩) 0 0) 0 []:=World.ownsRow_made w1 #[] 0 (Nat.le_refl _) (by unfold maxLen;omega) rfl
 have c0:=blk1.cell 0
 have c1:=blk1.cell 1
 have f0:=blk1.frozen 0
 have f1:=blk1.frozen 1
 simp only[List.getElem?_toArray,List.getElem?_cons_zero,List.getElem?_cons_succ]at c0 c1
 have HSRC:=hid hsrc
 have HB:=hid hbel1
 have HOC:=hid hown
 clear hsrc0 hsrc hbel1 ha C hb1 hown
 go_wp2_with(at_builtin;refine hZ rfl (.tmp 15) (.tmp 16) 29 rfl w1.heap.size 5 j0 _ 1 1 Tryz.underlying29 hj0 hy0 hy1 hy2 rfl (by decide) _ _ _ (by rfl) hown0 _ n _ (dZ .u8 ls) (by rfl) HSRC.out (qZ _ _) (by unfold maxLen;omega) (by omega) (by simp) ?_;intro v3 w3 hown3 hg3 hat3;obtain⟨A3,c3,rfl⟩:=bZ hown3;have gb:=(hg3.block w.heap.size (by simp;omega) (by simp[Value.ownBlock];omega)).trans (Below.heap_alloc w1 _ _ hgl);have p0:=(World.cell?_of_block (a:=⟨w.heap.size,0,none⟩) gb).trans c0;have p1:=(World.cell?_of_block (a:=⟨w.heap.size,1,none⟩) gb).trans c1;have q0:=(World.frozen?_of_block (a:=⟨w.heap.size,0,none⟩) gb).trans f0;have q1:=(World.frozen?_of_block (a:=⟨w.heap.size,1,none⟩) gb).trans f1)
 rw[Nat.zero_add,List.nil_append]at hown3
 have blk3:Blk w3 w.heap.size _ _:=gb.trans blk1
 have bel3:Below w1.heap.size w1 w3:=(aZ (Below.refl _ _)).grown hg3 (by simp) (fun k hk=>by simp[Value.ownBlock]at hk;omega)
 have z3:=bel3.size
 refine bodyPost_ret (Canon.results_cell_tmp rfl _ _ w.heap.size _ #[.slice A3 n c3, .slice AC n cC] _ (.int .i64 0) rfl rfl ((blk3.set 0 (.slice A3 n c3)).set 1 (.slice AC n cC)) Tryz.underlying234 rfl xdZb) rfl ⟨_,_,rfl,⟨⟨A3,c3,by rw[HN.out],?_⟩,⟨AC,cC,by rw[HN.out],?_⟩⟩,?_⟩
 ·have h:=RowIn.of_own (f:=rZ .u8 ls) (s:=1) hown3 rfl (fun i j hi hj=>by have e0:j=0:=(by omega);subst e0;exact rgZ (by rw[HN.out];exact hi))
  rw[HN.out]
  refine(h.keep fun p h1 _=>World.cell?_of_block ?_).mono (by omega) (by simp)
  exact(Below.heap_setCell _ _ _ _ (by simp;omega)).trans (Below.heap_setCell _ _ _ _ (by simp;omega))
 ·have h:=RowIn.of_own (f:=fun i _=> .int .u16 (xdZ ls i:Nat)) (s:=1) HOC.out rfl (fun i j hi hj=>by have e0:j=0:=(by omega);subst e0;simp[hi])
  rw[HN.out]
  refine(h.keep fun p h1 h2=>World.cell?_of_block ?_).mono (by simp) (by simp;omega)
  simp at h1
  exact((Below.heap_setCell _ _ _ _ (by simp;omega)).trans (Below.heap_setCell _ _ _ _ (by simp;omega))).trans (bel3.block _ h2)
 ·exact jZ (p:=⟨w.heap.size,1,none⟩) (Nat.le_refl _) (jZ (p:=⟨w.heap.size,0,none⟩) (Nat.le_refl _) (HB.out.trans (bel3.mono (by omega))))
end Go.Proofs.YtmlaajebadfkoaaGreatDoor.Huff
namespace Go.Proofs.YtmlaajebadfkoaaGreatDoor.Huff
open Go.RowKit Mem Canon Own
theorem rbytes_any(w:World)(g:Nat)(A:Option Addr)(q c:Nat)(bs:List Bool)(hq:bs.length=q)(hle:q<=6000000)(hg:w.cell? ⟨g,0,none⟩=some (.slice A q c))(hgl:g<w.heap.size)(ha:Row w w.heap.size A q 1 (rZ .u8 (b01 bs))):
 Calls Tryz.prog 211 #[.pointer (some ⟨g,0,none⟩)] w fun e w'=>∃v,e= .returned v/\w'.ownsRow w.heap.size 5 1 v (bytesOf bs).length (dZ .u8 (bytesOf bs))/\Below w.heap.size w w':=by
 obtain⟨j0,hj0,hy0,hy1,hy2⟩:=info_parts hbZ
 have HQ:=hid hq
 clear hq
 go_enter Tryz.func211,Tryz.ntmps211
 go_wp2_with fail
 go_loopw [3,4] (fun u i wr=>∃k:Nat,8*k<=q+7/\i= .int .i64 ((8*k:Nat):Int)/\wr.ownsRow w.heap.size 5 1 u k (dZ .u8 ((List.range k).map (wbZ bs)))/\Below w.heap.size w wr) (fun _ i _=>q+8-(intOf i).toNat)
 case atStart=>exact⟨0,by omega,rfl,World.ownsRow_nil _ _ _ _,Below.refl _ _⟩
 case round=>
  obtain⟨k,hk,rfl,hown,rbel⟩:=hrel
  have hbr:=rbel.size
  have c0:=(rbel.cell (p:=⟨g,0,none⟩) hgl).trans hg
  obtain⟨va,vc,rfl⟩:=bZ hown
  have hkb:k<=800000:=by omega
  generalize hi:8*k=i at *
  have HI:=hid hi
  clear hi
  by_cases hlt:i<q
  ·go_wp2_with fail
   go_loop [5,6] (fun a j=>∃p x:Nat,i<=p/\p<=i+8/\j= .int .i64 (p:Nat)/\a= .int .i64 x/\Hid (x=loZ bs i (p-i))/\x<256) (fun _ j=>i+8-(intOf j).toNat)
   case atStart=>exact⟨i,0,by omega,by omega,rfl,rfl,by show 0=_;rw[Nat.sub_self];rfl,by omega⟩
   case round=>
    obtain⟨p,x,hp1,hp2,rfl,rfl,hx,hx2⟩:=hrel
    by_cases hm8:p<i+8
    ·have hstep:loZ bs i (p+1-i)=2*x+bit bs p:=by
      rw[show p+1-i=(p-i)+1 by omega,loZ,<-hx.out,show i+(p-i)=p by omega]
     have hlt2:=veZb bs i (p+1-i)
     have hpw:2 ^ (p+1-i)<=2 ^ 8:=Nat.pow_le_pow_right (by omega) (by omega)
     rw[hstep]at hlt2
     by_cases hpq:p<q
     ·obtain⟨b,off,y,rfl,hbb,hy,d0⟩:=bbZ (ha.below rbel) (by rw[fvZ,HQ.out]) hpq
      have hyb:bit bs p=y:=by rw[<-upZb,List.getD_eq_getElem?_getD,hy];rfl
      rw[hyb]at hstep hlt2
      have HS:=hid hstep
      have x0:(0:Int)<=(p:Int):=by omega
      have x1:(p:Int)<(q:Int):=by omega
      have hb:2*x+y<256:=by omega
      clear hx hstep hlt2 hpw hy hyb
      go_wp2_with fail
      go_round
      case measure=>go_light;simp[intOf];omega
      case rel=>
       go_light
       exact⟨p+1,2*x+y,by omega,by omega,by go_num,by go_num,HS.out.symm,hb⟩
     ·rw[agZ (by rw[HQ.out];omega),Nat.add_zero]at hstep hlt2
      have HS:=hid hstep
      have hb:2*x<256:=by omega
      clear hx hstep hlt2 hpw
      go_wp2_with fail
      go_round
      case measure=>go_light;simp[intOf];omega
      case rel=>
       go_light
       exact⟨p+1,2*x,by omega,by omega,by go_num,by go_num,HS.out.symm,hb⟩
    ·obtain rfl:p=i+8:=by omega
     have hxb:x=wbZ bs k:=by rw[hx.out,Nat.add_sub_cancel_left,<-HI.out,ziZb]
     have HXB:=hid hxb
     clear hx hxb
     go_wp2_with(at_builtin;refine hZ rfl (.tmp 42) (.tmp 45) 29 rfl w.heap.size 5 j0 _ 1 1 Tryz.underlying29 hj0 hy0 hy1 hy2 rfl (by decide) _ _ _ (by rfl) (hown.alloc _) _ 1 1 [.int .u8 (x:Nat)] (by rfl) (Src.of_blk (Blk.made _ _ _) 1 1 1 rfl) (by intro u hu;simp at hu;subst hu;rfl) (by unfold maxLen;omega) (by omega) (by simp;omega) ?_;intro v3 w3 hown3 hg3 hat3)
     go_roundw
     case measure=>go_light;simp[intOf];omega
     case rel=>
      go_light
      have hi:=HI.out
      refine⟨k+1,by omega,by rw[<-hi];go_num,?_,(eZ hbr rbel).grown hg3 (by simp;omega) (fun y hy=>(World.ownsRow.lt hown y hy).1)⟩
      rw[List.range_succ,List.map_append,List.map_cons,List.map_nil,numL_snoc,<-HXB.out]
      exact hown3
  ·have hkq:(bytesOf bs).length=k:=by rw[bytesOf_length,HQ.out];have:=HI.out;omega
   have hbo:bytesOf bs=(List.range k).map (wbZ bs):=by unfold bytesOf;congr 2;rw[<-hkq,bytesOf_length]
   have HK:=hid hkq
   have HB:=hid hbo
   clear hkq hbo
   go_wp2_with fail
   go_ret
   refine⟨_,rfl,?_,rbel⟩
   rw[HK.out,HB.out]
   exact hown
end Go.Proofs.YtmlaajebadfkoaaGreatDoor.Huff
namespace Go.Proofs.YtmlaajebadfkoaaGreatDoor.Huff
open Go.RowKit Mem Canon Own
theorem zmZ(K:Nat->Prop)(w:World)(lo B:Nat)(vl vc:Value)(ls:List Nat)(g base:Nat)(v:Value)(bs:List Bool)(s:Int)
 (hok:okB ls=true)(hC:RCo w lo B vl vc ls)(hK:∀k,lo<=k->k<B->K k)(h0:afZ ls s≠0)(hle:bs.length<=5000000)(hW:RW K w base g bs v):
 Calls Tryz.prog 250 #[.agg #[vl,vc], .pointer (some ⟨g,0,none⟩), .int .i64 s] w
  fun e w'=>e= .returned (.int .i64 0)/\∃v',RW K w' base g (bs++word ls s.toNat) v'/\Kept K w w':=by
 obtain⟨hlen,hsm,_⟩:=ok_parts hok
 obtain⟨A,c,rfl,hr⟩:=hC.lens
 obtain⟨A',c',rfl,hr'⟩:=hC.codes
 obtain⟨m,x,rfl,hx,hx0⟩:=azZ h0
 have hx15:=hsm x (List.mem_of_getElem? hx)
 have hm:=(List.getElem?_eq_some_iff.1 hx).1
 have hword:word ls m=msb (code ls m) x x:=by unfold word;simp[List.getD_eq_getElem?_getD,hx]
 have hcl:=lwZ hok hx hx0
 have hcl2:code ls m<65536:=Nat.lt_of_lt_of_le hcl (by have:2 ^ x<=2 ^ 15:=Nat.pow_le_pow_right (by omega) hx15;omega)
 have hcw:xdZ ls m=code ls m:=Nat.mod_eq_of_lt hcl2
 obtain⟨b,off,rfl,hbb,hcell⟩:=hr (by omega)
 obtain⟨b',off',rfl,hbb',hcell'⟩:=hr' (by omega)
 have KB:=hid (hK b hbb.1 hbb.2)
 have KB':=hid (hK b' hbb'.1 hbb'.2)
 have hkb:=hW.kK b KB.out
 have hkb':=hW.kK b' KB'.out
 obtain⟨w0,hw0⟩:∃w0,w0=w.alloc (.cells #[.slice (some ⟨b,off,none⟩) ls.length c, .slice (some ⟨b',off',none⟩) ls.length c'] 234):=⟨_,rfl⟩
 have hbel:Below w.heap.size w w0:=by rw[hw0];exact aZ (Below.refl _ _)
 have blk:Blk w0 w.heap.size 234 #[.slice (some ⟨b,off,none⟩) ls.length c, .slice (some ⟨b',off',none⟩) ls.length c']:=by rw[hw0];exact Blk.made _ _ _
 have d0:w0.cell? ⟨b,off+m,none⟩=some (.int .u8 (x:Nat)):=by
  have:=hcell m 0 hm (by omega)
  rw[hbel.cell hkb]
  simpa[rZ,List.getD_eq_getElem?_getD,hx]using this
 have d1:w0.cell? ⟨b',off'+m,none⟩=some (.int .u16 (code ls m:Nat)):=by
  have:=hcell' m 0 hm (by omega)
  rw[hbel.cell hkb']
  simpa[hcw]using this
 have p0:=blk.cell 0
 have p1:=blk.cell 1
 simp only[List.getElem?_toArray,List.getElem?_cons_zero,List.getElem?_cons_succ]at p0 p1
 have hgw:=blk.lt
 have hW0:RW (fun y=>K y∨y=w.heap.size) w0 base g bs v:=hW.step hbel (fun y hy=>by
  rcases hy with hy|hy
  ·exact .inl hy
  ·exact .inr ⟨by omega,by omega⟩)
 have C3:=rput_any (fun y=>K y∨y=w.heap.size) w0.drew g base v bs (code ls m) x hcl (by omega) (by omega) ⟨hW0.blk.drew,hW0.own,hW0.ne,hW0.base,hW0.kg,hW0.kv,hW0.kK⟩
 rw[<-hword]at C3
 rw[Int.toNat_natCast]
 have HBEL:=hid (Kept.of_below hbel hW.kK)
 generalize code ls m=cd at *
 generalize ls.length=n at *
 have hu:IntKind.u64.wrap (cd:Int)=(cd:Int):=by rw[IntKind.wrap_u64];omega
 have hv:IntKind.i64.wrap (x:Int)=(x:Int):=IntWalk.i64_in _ (by omega)
 rw[<-hu,<-hv]at C3
 have C3:=hid C3
 have x0:(0:Int)<=(m:Int):=by omega
 have x1:(m:Int)<(n:Int):=by omega
 have x2:0<x:=by omega
 clear hu hv hcell hcell' hx hword hcl hcw hW hW0 hbel hr hr' hC h0 hsm hok hK hbb hbb' hx0
 subst hw0
 go_enter Tryz.func250,Tryz.ntmps250
 go_upto_region 3 with fail
 generalize w.alloc (.cells #[.slice (some ⟨b,off,none⟩) n c, .slice (some ⟨b',off',none⟩) n c'] 234)=w0 at *
 clear blk
 go_region_held3 (fun wx=>wx.cell? ⟨w.heap.size,0,none⟩=some (.slice (some ⟨b,off,none⟩) n c)/\wx.cell? ⟨w.heap.size,1,none⟩=some (.slice (some ⟨b',off',none⟩) n c')/\wx.cell? ⟨b,off+m,none⟩=some (.int .u8 x)/\wx.cell? ⟨b',off'+m,none⟩=some (.int .u16 cd)) (first|exact⟨p0,p1,d0,d1⟩|exact⟨k0,k1,k2,k3⟩) (first|(go_at_call 209;(with_reducible refine C3.out.mono ?_);rintro e w' ⟨rfl,v2,hW2,hk2⟩;have k0:w'.cell? ⟨w.heap.size,0,none⟩=some (.slice (some ⟨b,off,none⟩) n c):=(World.cell?_of_block (a:=⟨w.heap.size,0,none⟩) (hk2.block _ (.inr rfl))).trans p0;have k1:w'.cell? ⟨w.heap.size,1,none⟩=some (.slice (some ⟨b',off',none⟩) n c'):=(World.cell?_of_block (a:=⟨w.heap.size,1,none⟩) (hk2.block _ (.inr rfl))).trans p1;have k2:w'.cell? ⟨b,off+m,none⟩=some (.int .u8 x):=(World.cell?_of_block (a:=⟨b,off+m,none⟩) (hk2.block b (.inl KB.out))).trans d0;have k3:w'.cell? ⟨b',off'+m,none⟩=some (.int .u16 cd):=(World.cell?_of_block (a:=⟨b',off'+m,none⟩) (hk2.block b' (.inl KB'.out))).trans d1))
 have HW2:=hid hW2
 have HK2:=hid hk2
 clear hW2 hk2 k0 k1 k2 k3 C3
 go_wp2_with fail
 go_ret
 exact⟨rfl,v2,HW2.out.weak (fun y hy=> .inl hy),HBEL.out.trans ⟨HK2.out.os,HK2.out.tape,HK2.out.output,HK2.out.size,fun y hy=>HK2.out.block y (.inl hy)⟩⟩
end Go.Proofs.YtmlaajebadfkoaaGreatDoor.Huff
