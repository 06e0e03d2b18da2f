/- The walk of the refe -/
import Derived.Test.YtfgdoknipbpfhaaGreatDoorZBodyIndex3
import Derived.Deep.RegionLaw
import Derived.Deep.AppendLies
import Derived.BigRegion
import Derived.Laws.BitsLemmas
import Derived.Laws.Bits64b
namespace Go.Proofs.YtfgdoknipbpfhaaGreatDoor
open Go.Proofs.Tryz
open Go.Lib (hid)
set_option maxHeartbeats 1000000
set_option maxRecDepth 100000
variable{w w' w1 w3:World}{B base c g g3 i k l lo r x y:Nat}{ls:List Nat}{vc vl:Value}{t:TypeId}
namespace Huff
open Go.RowKit Mem Canon Own
def b01(bs:List Bool):List Nat:=bs.map fun b=>if b then 1 else 0
theorem UT(bs:List Bool):(b01 bs).length=bs.length:=by simp[b01]
theorem Ye(bs:List Bool)(i:Nat):(b01 bs).getD i 0=bit bs i:=by unfold b01 bit;rw[Aq,Aq,BR];cases bs[i]? <;>simp
theorem U4(k:IntKind)(l:List Nat)(x:Nat):bZ k (l++ [x])=bZ k l++ [.int k (x:Nat)]:=p7
structure RW (K:Nat->Prop) (w:World) (base g:Nat) (bs:List Bool) (v:Value):Prop where
 blk:Blk w g 186 #[v]
 own:w.ownsRow base 5 1 v bs.length (bZ .u8 (b01 bs))
 ne:v.ownBlock≠some g
 base:base<=w.heap.size
 kg:¬K g
 kv:∀x,v.ownBlock=some x->¬K x
 kK:∀k,K k->k<w.heap.size
theorem RW.start{K:Nat->Prop}(hb:Blk w1 g 186 #[()])(hg:w.heap.size<=g)(hK:∀k,K k->k<w.heap.size)(h1:w.heap.size<=w1.heap.size):RW K w1 w g [] (.slice none 0 0):=
 ⟨hb,AE _ _ _ _,(fun h=>by cases h),h1,(fun h=>by have:=hK _ h;omega),(fun x h=>by cases h),fun k h=>by have:=hK k h;omega⟩
theorem RW.weak{K L:Nat->Prop}{bs:List Bool}{v:Value}(h:RW K w base g bs v)(hl:∀k,L k->K k):RW L w base g bs v:=
 ⟨h.blk,h.own,h.ne,h.base,fun e=>h.kg (hl _ e),fun x hx e=>h.kv x hx (hl _ e),fun k e=>h.kK k (hl k e)⟩
theorem RW.step{K L:Nat->Prop}{bs:List Bool}{v:Value}(h:RW K w base g bs v)(hb:Below w w w')(hL:∀k,L k->K k∨w.heap.size<=k/\k<w'.heap.size):RW L w' base g bs v:=by
 have hv:∀x,v.ownBlock=some x->x<w.heap.size:=fun x hx=>(Ai h.own x hx).2;refine⟨h.blk.step hb,eZ h.own (fun x hx=>hb.block x (hv x hx)),h.ne,Bm h.base hb.size,fun e=> ?_,fun x hx e=> ?_,fun k e=> ?_⟩
 ·rcases hL _ e with e|e
  ·exact h.kg e
  ·have:=h.blk.lt;omega
 ·rcases hL _ e with e|e
  ·exact h.kv x hx e
  ·have:=hv x hx;omega
 ·rcases hL _ e with e|e
  ·have:=h.kK k e;have:=hb.size;omega
  ·exact e.2
theorem RW.push{K:Nat->Prop}{w w1 w3:World}{base g g3 j:Nat}{bs:List Bool}{v:Value}(b:Bool){y:Int}(h:RW K w base g bs v)(hb:Below w w w1)(hy:y=((if b then 1 else 0:Nat):Int))
 (J:w3.ownsRow base 5 1 (.slice (some ⟨g3,0,none⟩) (bs.length+1) j) (bs.length+1) (bZ .u8 (b01 bs)++ [.int .u8 y]))(hg:w1.grownBy w3 v.ownBlock)(L:v.ownBlock=some g3∨g3=w1.heap.size):
 RW K (w3.setCell ⟨g,0,none⟩ (.slice (some ⟨g3,0,none⟩) (bs.length+1) j)) base g (bs++ [b]) (.slice (some ⟨g3,0,none⟩) (bs.length+1) j)/\Kept K w (w3.setCell ⟨g,0,none⟩ (.slice (some ⟨g3,0,none⟩) (bs.length+1) j)):=by
 have M:=h.blk.lt;have hz:=hb.size
 have i:g3≠g/\¬K g3:=by
  rcases L with e|e
  ·exact⟨fun e2=>h.ne (by rw[e,e2]),h.kv g3 e⟩
  ·exact⟨nB,fun e2=>by have:=h.kK _ e2;omega⟩
 have G:Blk w3 g _ _:=(h.blk.step hb).grown hg (By h.ne)
 have E:Kept K w (w3.setCell ⟨g,0,none⟩ (.slice (some ⟨g3,0,none⟩) (bs.length+1) j)):=
  Kept.set (p:=⟨g,0,none⟩) ((Kept.of_below hb h.kK).grown hg (fun k e=>by have:=h.kK k e;omega) h.kv) h.kg _
 have e1:bZ .u8 (b01 (bs++ [b]))=bZ .u8 (b01 bs)++ [.int .u8 y]:=by rw[hy];simp[bZ,b01]
 refine⟨⟨G.set 0 _,?_,fun e=>i.1 (by simpa[Value.ownBlock]using e),Bm h.base E.size,h.kg,fun x hx=> ?_,E.lt h.kK⟩,E⟩
 ·rw[e1,Aj,JG];exact eZ J (fun x hx=>by have hx:g3=x:=(by simpa[Value.ownBlock]using hx);subst hx;exact Be _ _ _ g3 i.1)
 ·have hx:g3=x:=by simpa[Value.ownBlock]using hx
  subst hx;exact i.2
def lowL(x k:Nat):List Nat:=(List.range k).map fun i=>x / 2 ^ i % 2
theorem gR(x k:Nat):lowL x (k+1)=lowL x k++ [x / 2 ^ k % 2]:=by simp[lowL,List.range_succ]
theorem dM(h:i<k):(lowL x k)[i]? =some (x / 2 ^ i % 2):=by simp[lowL,h]
theorem IZ(K:Nat->Prop)(w:World)(g base:Nat)(v:Value)(bs:List Bool)(x n:Nat)(hx:x<2 ^ n)(hn:n<=64)(Q:bs.length+n<=6000000)(hW:RW K w base g bs v):
 Calls prog 134 #[.pointer (some ⟨g,0,none⟩), .int .u64 (x:Nat), .int .i64 (n:Nat)] w fun e w'=>e= .returned (.int .i64 0)/\∃v',RW K w' base g (bs++msb x n n) v'/\Kept K w w':=by
 obtain⟨j0,al,ae,aj,ak⟩:=info_parts CW;have ac:x<18446744073709551616:=Fi hx (by have:2 ^ n<=2 ^ 64:=Cf nB hn;omega);have HW:=hid hW;have az:=hid Q;have HX:=hid hx;clear hW Q hx;go_enter func134,ntmps134;go_wp2_with fail;go_loopw [1,7,8] (fun y u i wr=>∃ (k z:Nat),k<=n/\i= .int .i64 k/\y= .int .u64 z/\Hid (z=x / 2 ^ k)/\z<18446744073709551616/\wr.ownsRow w 5 1 u k (bZ .u8 (lowL x k))/\Below w w wr) (fun _ _ i _=>n-(intOf i).toNat)
 case atStart=>exact⟨0,x,nB,rfl,rfl,by show x=_;simp,ac,AE _ _ _ _,Ak _ _⟩
 case round=>
  obtain⟨k,z,hk,rfl,rfl,hz,a4,h,E⟩:=hrel;have aw:=E.size;by_cases ba:k<n
  ·obtain⟨va,vc,rfl⟩:=aZ h;go_wp2_with(at_builtin;refine fZ rfl (.tmp 21) (.tmp 25) 28 rfl w 5 j0 _ 1 1 underlying28 al ae aj ak rfl ji _ _ _ nC (h.alloc _) _ 1 1 [.int .u8 ((z % 2:Nat):Int)] nC (Src.of_blk (Blk.made _ _ _) 1 1 1 rfl) na qn nB p5 ?_;intro v3 w3 L aq a3);have av:z / 2=x / 2 ^ (k+1):=(by rw[hz.out,Dl,LK]);have ay:=hid av;go_roundw
   case measure=>exact ld
   case rel=>go_light;refine⟨k+1,z / 2,nB,lj,lj,ay.out,nB,?_,(mZ aw E).grown aq p5 (fun y hy=>(Ai h y hy).1)⟩;rw[gR,U4,<-hz.out];exact L
  ·obtain rfl:k=n:=by omega
   have ar:z=0:=(by rw[hz.out];exact Nat.div_eq_of_lt HX.out);subst ar;have e0:((0:Nat):Int)=0:=rfl;rw[e0];clear e0;obtain⟨va,vc,rfl⟩:=aZ h
   have af:RW (fun y=>K y∨some y=(Value.slice va k vc).ownBlock) wr base g bs v:=HW.out.step E (fun y hy=>by
    rcases hy with hy|hy
    ·exact .inl hy
    ·exact .inr (Ai h y hy.symm))
   have aa:RW (fun y=>K y∨some y=(Value.slice va k vc).ownBlock) wr base g (bs++msb x k (k-k)) v:=(by rw[Gl,V2,Cx];exact af);have ax:=hid aa;have a1:=hid (Kept.of_below E HW.out.kK);have N:=hid h;clear af aa hz h E;go_wp2_with fail;obtain⟨wo,rfl⟩:=jc wr;go_loopw [9] (fun i wx=>∃ (j:Nat) (v':Value),j<=k/\i= .int .i64 ((j:Int)-1)/\Hid (RW (fun y=>K y∨some y=(Value.slice va k vc).ownBlock) wx base g (bs++msb x k (k-j)) v')/\Kept (fun y=>K y∨some y=(Value.slice va k vc).ownBlock) wo wx) (fun i _=>(intOf i+1).toNat)
   case atStart=>exact⟨k,v,nB,lj,ax.out,Kept.refl _ _⟩
   case round=>
    obtain⟨j,v',hj,rfl,G,J⟩:=hrel;cases j with
    |zero=>have e:(((0:Nat):Int)-1)= -1:=nB;rw[e];clear e;go_wp2_with fail;go_ret;refine⟨rfl,v',G.out.weak (fun y hy=> .inl hy),a1.out.trans ⟨J.os,J.tape,J.output,J.size,fun y hy=>J.block y (.inl hy)⟩⟩
    |succ j=>
     have e:(((j+1:Nat):Int)-1)=(j:Int):=nB;rw[e];clear e;obtain⟨gl,cl,au,ai,Z⟩:=N.out.form nB;injection au with e1 e2 e3;subst e1 e3;have c0:=(World.cell?_of_block (a:=⟨gl,j,none⟩) (J.block gl (.inr rfl))).trans (N.out.cellAt j nB);have c1:wr.cell? ⟨gl,j,none⟩=some (.int .u8 ((x / 2 ^ j % 2:Nat):Int)):=(by rw[c0];simp[bZ,dM (show j<k by omega)]);have h:=G.out.own;have U:(bs++msb x k (k-(j+1))).length<=6000000:=(by rw[Aj,uZ];have:=az.out;omega);obtain⟨q,hq⟩:=jc ((bs++msb x k (k-(j+1))).length);rw[<-hq]at h U;obtain⟨AS,cS,rfl⟩:=aZ h;have HQ:=hid hq;have d0:=G.out.blk.iy 0;have f0:=G.out.blk.frozen 0;have ag:=G.out.blk.lt;have ah:some g≠(Value.slice AS q cS).ownBlock:=By G.out.ne;generalize Y:((x / 2 ^ j % 2:Nat):Int)=yv at c1;have a0:=hid Y;have x0:(0:Int)<=(j:Int):=nB;have x1:(j:Int)<(k:Int):=nB;have a9:=G.out.base;clear c0 Y hq ai Z e2;go_upto_region 14 with fail;go_region_law((refine step_append_lies _ nC _ _ _ nC base 5 j0 _ 1 1 underlying28 al ae aj ak rfl nB (.slice AS q cS) q (bZ .u8 (b01 (bs++msb x k (k-(j+1))))) nC ((h.alloc _).drew) ⟨wr,0,none⟩ 1 1 [.int .u8 yv] nC nC (World.news_of_block (cs:=#[.int .u8 yv]) (t:=5) (fr:=(0,0)) (heap_alloc_new wr _)) na nB qn nB p5 (wr.heap.size+1) pR ?_;intro g3 a5 w3 L M am a6;have gb:w3.heap[g]? =wr.heap[g]? :=(M.block g p5 ah).trans (EA wr _ g ag);have p3:=(World.cell?_of_block (a:=⟨g,0,none⟩) gb).trans d0;have p4:=(World.frozen?_of_block (a:=⟨g,0,none⟩) gb).trans f0))
     all_goals
      go_wp2_with fail;go_roundw
      case measure=>go_light;simp[intOf]
      case rel=>go_light;have hq:=HQ.out;subst hq;obtain⟨ab,an⟩:=G.out.push (decide (x / 2 ^ j % 2=1)) (y:=yv) ((cZ (Ak _ wr)).drew) (by rw[<-a0.out,aS]) L M (by simpa using am);have e:bs++msb x k (k-j)=bs++msb x k (k-(j+1))++ [decide (x / 2 ^ j % 2=1)]:=(by rw[show k-j=k-(j+1)+1 by omega,lX,<-AK,show k-1-(k-(j+1))=j by omega]);rw[<-e]at ab;exact⟨j,_,nB,lj,ab,J.trans an⟩
end Huff
namespace Huff
open Go.RowKit Mem Canon Own
def Fs(ls:List Nat)(l:Nat):List Nat:=if l=0 then []else symsOf ls l
theorem bI(ls:List Nat)(l:Nat):(Fs ls l).length=cn ls l:=by
 unfold Fs cn;split
 ·rfl
 ·exact PJ l ls
theorem Lg(hx:ls[k]? =some x)(h0:x≠0)(l:Nat):cn (ls.take (k+1)) l=cn (ls.take k) l+if x=l then 1 else 0:=by
 rw[GB hx];unfold cn;split
 ·rename_i h;subst h;rw[Ae h0]
 ·rw[GA]
theorem OH(hx:ls[k]? =some 0)(l:Nat):cn (ls.take (k+1)) l=cn (ls.take k) l:=by
 rw[GB hx];unfold cn;split
 ·rfl
 ·rw[GA,Ae nB];rfl
theorem iD(hx:ls[k]? =some x)(h0:x≠0)(l:Nat):Fs (ls.take (k+1)) l=Fs (ls.take k) l++if x=l then [k]else []:=by
 have hk:(ls.take k).length=k:=by have:=(BS.1 hx).1;rw[Bc];omega
 rw[GB hx];unfold Fs;split
 ·rename_i h;subst h;rw[Ae h0];rfl
 ·rw[M7,hk]
theorem gK(hx:ls[k]? =some 0)(l:Nat):Fs (ls.take (k+1)) l=Fs (ls.take k) l:=by
 rw[GB hx];unfold Fs;split
 ·rfl
 ·rw[M7,Ae nB,Cx]
def Fl(ls:List Nat)(k l:Nat):Nat:=if cn (ls.take k) l=0 then 0 else fst ls l
def upd(sv:Nat->Value)(l:Nat)(v:Value):Nat->Value:=fun m=>if m=l then v else sv m
structure Cells (ls:List Nat) (k:Nat) (vl vc:Value) (sv:Nat->Value) (cs:Array Value):Prop where
 size:cs.size=50
 lens:cs[0]? =some vl
 codes:cs[1]? =some vc
 first:∀l,l<16->cs[2+l]? =some (.int .i64 (Fl ls k l:Nat))
 many:∀l,l<16->cs[18+l]? =some (.int .i64 (cn (ls.take k) l:Nat))
 syms:∀l,l<16->cs[34+l]? =some (sv l)
theorem Cells.start(ls:List Nat)(vl vc:Value):Cells ls 0 vl vc (fun _=> .slice none 0 0)
 #[vl,vc, .int .i64 0, .int .i64 0, .int .i64 0, .int .i64 0, .int .i64 0, .int .i64 0, .int .i64 0, .int .i64 0, .int .i64 0, .int .i64 0, .int .i64 0, .int .i64 0, .int .i64 0, .int .i64 0, .int .i64 0, .int .i64 0,
  .int .i64 0, .int .i64 0, .int .i64 0, .int .i64 0, .int .i64 0, .int .i64 0, .int .i64 0, .int .i64 0, .int .i64 0, .int .i64 0, .int .i64 0, .int .i64 0, .int .i64 0, .int .i64 0, .int .i64 0, .int .i64 0,
  .slice none 0 0, .slice none 0 0, .slice none 0 0, .slice none 0 0, .slice none 0 0, .slice none 0 0, .slice none 0 0, .slice none 0 0, .slice none 0 0, .slice none 0 0, .slice none 0 0, .slice none 0 0, .slice none 0 0, .slice none 0 0, .slice none 0 0, .slice none 0 0]:=by
 have hc:∀l,cn (ls.take 0) l=0:=by intro l;simp[cn,Jv]
 have hf:∀l,Fl ls 0 l=0:=by intro l;unfold Fl;rw[Ag (hc l)]
 refine⟨rfl,rfl,rfl,fun l hl=> ?_,fun l hl=> ?_,fun l hl=> ?_⟩
 ·rw[hf];have:l=0∨l=1∨l=2∨l=3∨l=4∨l=5∨l=6∨l=7∨l=8∨l=9∨l=10∨l=11∨l=12∨l=13∨l=14∨l=15:=by omega
  rcases this with rfl|rfl|rfl|rfl|rfl|rfl|rfl|rfl|rfl|rfl|rfl|rfl|rfl|rfl|rfl|rfl<;>rfl
 ·rw[hc];have:l=0∨l=1∨l=2∨l=3∨l=4∨l=5∨l=6∨l=7∨l=8∨l=9∨l=10∨l=11∨l=12∨l=13∨l=14∨l=15:=by omega
  rcases this with rfl|rfl|rfl|rfl|rfl|rfl|rfl|rfl|rfl|rfl|rfl|rfl|rfl|rfl|rfl|rfl<;>rfl
 ·have:l=0∨l=1∨l=2∨l=3∨l=4∨l=5∨l=6∨l=7∨l=8∨l=9∨l=10∨l=11∨l=12∨l=13∨l=14∨l=15:=by omega
  rcases this with rfl|rfl|rfl|rfl|rfl|rfl|rfl|rfl|rfl|rfl|rfl|rfl|rfl|rfl|rfl|rfl<;>rfl
theorem Cells.skip{sv:Nat->Value}{cs:Array Value}(h:Cells ls k vl vc sv cs)(hx:ls[k]? =some 0):Cells ls (k+1) vl vc sv cs:=by
 refine⟨h.size,h.lens,h.codes,fun l hl=> ?_,fun l hl=> ?_,h.syms⟩
 ·rw[h.first l hl];unfold Fl;rw[OH hx]
 ·rw[h.many l hl,OH hx]
theorem Cells.next{v:Value}{sv:Nat->Value}{cs:Array Value}(h:Cells ls k vl vc sv cs)(hx:ls[k]? =some x)(h0:x≠0)(j:x<=15)(hc:cn (ls.take k) x=c)(i:c≠0):
 Cells ls (k+1) vl vc (upd sv x v) ((cs.setIfInBounds (18+x) (.int .i64 ((c+1:Nat):Int))).setIfInBounds (34+x) v):=by
 have hs:=h.size;refine⟨qk,?_,?_,fun l hl=> ?_,fun l hl=> ?_,fun l hl=> ?_⟩
 ·rw[Array.getElem?_setIfInBounds_ne nB,Array.getElem?_setIfInBounds_ne nB,h.lens]
 ·rw[Array.getElem?_setIfInBounds_ne nB,Array.getElem?_setIfInBounds_ne nB,h.codes]
 ·rw[Array.getElem?_setIfInBounds_ne nB,Array.getElem?_setIfInBounds_ne nB,h.first l hl];unfold Fl;rw[Lg hx h0];by_cases e:x=l
  ·subst e;rw[Ae nB,Ae pR]
  ·rw[Ae e];rfl
 ·rw[Array.getElem?_setIfInBounds_ne nB,Hm,Lg hx h0];by_cases e:x=l
  ·subst e;rw[Ag rfl,Ag nB,Ag rfl,hc]
  ·rw[Ae nB,Ae e,h.many l hl];rfl
 ·rw[Hm];unfold upd;by_cases e:x=l
  ·subst e;rw[Ag rfl,Ag p5,Ag rfl]
  ·rw[Ae nB,Ae (By e),Array.getElem?_setIfInBounds_ne nB,h.syms l hl]
theorem Cells.fresh{v:Value}{sv:Nat->Value}{cs:Array Value}(h:Cells ls k vl vc sv cs)(hx:ls[k]? =some x)(h0:x≠0)(j:x<=15)(hc:cn (ls.take k) x=0):
 Cells ls (k+1) vl vc (upd sv x v) (((cs.setIfInBounds (2+x) (.int .i64 (code ls k:Nat))).setIfInBounds (18+x) (.int .i64 ((0+1:Nat):Int))).setIfInBounds (34+x) v):=by
 have hs:=h.size;have i:code ls k=fst ls x:=by rw[I6 hx h0];unfold cn at hc;rw[Ae h0]at hc;omega
 refine⟨qk,?_,?_,fun l hl=> ?_,fun l hl=> ?_,fun l hl=> ?_⟩
 ·rw[Array.getElem?_setIfInBounds_ne nB,Array.getElem?_setIfInBounds_ne nB,Array.getElem?_setIfInBounds_ne nB,h.lens]
 ·rw[Array.getElem?_setIfInBounds_ne nB,Array.getElem?_setIfInBounds_ne nB,Array.getElem?_setIfInBounds_ne nB,h.codes]
 ·rw[Array.getElem?_setIfInBounds_ne nB,Array.getElem?_setIfInBounds_ne nB,Hm];unfold Fl;rw[Lg hx h0];by_cases e:x=l
  ·subst e;rw[Ag rfl,Ag nB,Ae pR,i]
  ·rw[Ae nB,h.first l hl,Ae e];rfl
 ·rw[Array.getElem?_setIfInBounds_ne nB,Hm,Lg hx h0];by_cases e:x=l
  ·subst e;rw[Ag rfl,Ag p5,Ag rfl,hc]
  ·rw[Ae nB,Ae e,Array.getElem?_setIfInBounds_ne nB,h.many l hl];rfl
 ·rw[Hm];unfold upd;by_cases e:x=l
  ·subst e;rw[Ag rfl,Ag p5,Ag rfl]
  ·rw[Ae nB,Ae (By e),Array.getElem?_setIfInBounds_ne nB,Array.getElem?_setIfInBounds_ne nB,h.syms l hl]
structure Rows (w:World) (base:Nat) (ls:List Nat) (k:Nat) (sv:Nat->Value):Prop where
 own:∀l,l<16->w.ownsRow base 3 1 (sv l) (cn (ls.take k) l) (bZ .i64 (Fs (ls.take k) l))
 apart:∀l m x,l<16->m<16->l≠m->(sv l).ownBlock=some x->(sv m).ownBlock≠some x
theorem Rows.start(w:World)(base:Nat)(ls:List Nat):Rows w base ls 0 (fun _=> .slice none 0 0):=by
 refine⟨fun l hl=> ?_,fun l m x _ _ _ h=>jh⟩;have h1:cn (ls.take 0) l=0:=by simp[cn,Jv]
 have h2:Fs (ls.take 0) l= []:=by unfold Fs;split<;>rfl
 rw[h1,h2];exact AE _ _ _ _
theorem Rows.kept{sv:Nat->Value}(h:Rows w base ls k sv)(hk:∀l x,l<16->(sv l).ownBlock=some x->w'.heap[x]? =w.heap[x]?):Rows w' base ls k sv:=
 ⟨fun l hl=>eZ (h.own l hl) (fun x hx=>hk l x hl hx),h.apart⟩
theorem Rows.alloc{sv:Nat->Value}(h:Rows w base ls k sv)(o:Obj):Rows (w.alloc o) base ls k sv:=⟨fun l hl=>(h.own l hl).alloc o,h.apart⟩
theorem Rows.drew{sv:Nat->Value}(h:Rows w base ls k sv):Rows w.drew base ls k sv:=⟨h.own,h.apart⟩
theorem Rows.set{sv:Nat->Value}{cs:Array Value}(h:Rows w base ls k sv)(hg:Blk w g t cs)(ht:3≠t)(i:Nat)(u:Value):Rows (w.setCell ⟨g,i,none⟩ u) base ls k sv:=
 h.kept fun l x hl hx=>Be w _ u x (fun e=>iZ (h.own l hl) hg ht (by rw[hx,e]))
theorem Rows.skip{sv:Nat->Value}(h:Rows w base ls k sv)(hx:ls[k]? =some 0):Rows w base ls (k+1) sv:=
 ⟨fun l hl=>by rw[OH hx,gK hx];exact h.own l hl,h.apart⟩
theorem Rows.push{E:Nat}{sv:Nat->Value}(h:Rows w base ls k sv)(hx:ls[k]? =some x)(h0:x≠0)(G:x<=15)(hc:cn (ls.take k) x=c)
 (j:w3.ownsRow base 3 1 (.slice (some ⟨g3,0,none⟩) (c+1) E) (c+1) (bZ .i64 (Fs (ls.take k) x)++ [.int .i64 (k:Nat)]))(hg:w.grownBy w3 (sv x).ownBlock)(i:(sv x).ownBlock=some g3∨g3=w.heap.size):
 Rows w3 base ls (k+1) (upd sv x (.slice (some ⟨g3,0,none⟩) (c+1) E)):=by
 refine⟨fun l hl=> ?_,fun a b y ha hb hab hy=> ?_⟩
 ·rw[Lg hx h0,iD hx h0];unfold upd;by_cases e:l=x
  ·subst e;rw[Ag rfl,Ag rfl,Ag rfl,hc];simpa[bZ]using j
  ·rw[Ae e,Ae (By e),Ae (By e),Cx];refine(h.own l hl).kept hg ?_;cases hb:(sv l).ownBlock with
   |none=>exact .inl rfl
   |some y=>exact .inr (fun e2=>h.apart l x y hl nB e hb e2.symm)
 ·unfold upd at hy ⊢;by_cases e1:a=x
  ·subst e1;rw[Ag rfl]at hy;rw[Ae (By hab)];have hy:g3=y:=(by simpa[Value.ownBlock]using hy);subst hy;rcases i with h1|h1
   ·exact h.apart a b g3 ha hb hab h1
   ·intro h2;have:=(Ai (h.own b hb) g3 h2).2;omega
  ·rw[Ae e1]at hy;by_cases e2:b=x
   ·subst e2;rw[Ag rfl];intro h2;have h2:g3=y:=(by simpa[Value.ownBlock]using h2);subst h2;rcases i with h1|h1
    ·exact h.apart a b g3 ha hb hab hy h1
    ·have:=(Ai (h.own a ha) g3 hy).2;omega
   ·rw[Ae e2];exact h.apart a b y ha hb hab hy
end Huff
namespace Huff
open Go.RowKit Mem Canon Own
def RowIn(w:World)(lo B:Nat)(A:Option Addr)(n s:Nat)(f:Nat->Nat->Value):Prop:=
 0<n->∃b off,A=some ⟨b,off,none⟩/\(lo<=b/\b<B)/\∀i j,i<n->j<s->w.cell? ⟨b,off+(i*s+j),none⟩=some (f i j)
section
variable {w w':World} {lo lo' B B' n s:Nat} {A:Option Addr} {f g:Nat->Nat->Value}
theorem RowIn.row(h:RowIn w lo B A n s f):Row w B A n s f:=fun hn=>by obtain⟨b,i,e,hb,hc⟩:=h hn;exact⟨b,i,e,hb.2,hc⟩
theorem RowIn.keep(h:RowIn w lo B A n s f)(hk:∀p:Addr,lo<=p.block->p.block<B->w'.cell? p=w.cell? p):RowIn w' lo B A n s f:=fun hn=>by obtain⟨b,E,e,hb,hc⟩:=h hn;exact⟨b,E,e,hb,fun i j hi hj=>(hk _ hb.1 hb.2).trans (hc i j hi hj)⟩
theorem RowIn.mono(h:RowIn w lo B A n s f)(hl:lo'<=lo)(hB:B<=B'):RowIn w lo' B' A n s f:=fun hn=>by obtain⟨b,i,e,hb,hc⟩:=h hn;exact⟨b,i,e,⟨nB,nB⟩,hc⟩
theorem RowIn.of_own{e:TypeId}{v:Value}{xs:List Value}(h:w.ownsRow base e s v n xs)(hv:v= .slice A n c)(hf:∀i j,i<n->j<s->xs[i*s+j]? =some (f i j)):RowIn w base w A n s f:=fun hn=>by
 rcases h.2 with ⟨_,h0⟩|⟨g,J,cur,G,hb,hh,L,_,M,E⟩
 ·omega
 ·rw[hv]at G;injection G with e1 e2 e3;refine⟨g,0,e1,⟨hb,Blk.lt hh⟩,fun i j hi hj=> ?_⟩;rw[B0,Blk.cell hh];have:=hf i j hi hj;rw[<-E,Gn]at this;split at this
  ·simpa using this
  ·cases this
theorem RowIn.of_blk{cs:Array Value}{b:Nat}(h:Blk w b t cs)(hl:lo<=b)(hB:b<B)(hf:∀i j,i<n->j<s->cs[i*s+j]? =some (f i j)):RowIn w lo B (some ⟨b,0,none⟩) n s f:=
 fun _=>⟨b,0,rfl,⟨hl,hB⟩,fun i j hi hj=>by rw[B0,h.cell];exact hf i j hi hj⟩
end
theorem numL_get{k:IntKind}(h:i<ls.length):(bZ k ls)[i*1+0]? =some (kZ k ls i 0):=by simp[bZ,kZ,List.getD_eq_getElem?_getD,h]
structure Coder (w:World) (lo B g:Nat) (ls:List Nat):Prop where
 ge:lo<=g
 lt:g<B
 free:∀i,w.frozen? ⟨g,i,none⟩=false
 lens:∃A c,w.cell? ⟨g,0,none⟩=some (.slice A ls.length c)/\RowIn w lo B A ls.length 1 (kZ .u8 ls)
 codes:∃A c,w.cell? ⟨g,1,none⟩=some (.slice A ls.length c)/\RowIn w lo B A ls.length 1 (fun i _=> .int .u16 (EH ls i:Nat))
 first:∀l,l<16->w.cell? ⟨g,2+l,none⟩=some (.int .i64 (Fl ls ls.length l:Nat))
 many:∀l,l<16->w.cell? ⟨g,18+l,none⟩=some (.int .i64 (cn ls l:Nat))
 syms:∀l,l<16->∃A c,w.cell? ⟨g,34+l,none⟩=some (.slice A (cn ls l) c)/\RowIn w lo B A (cn ls l) 1 (kZ .i64 (Fs ls l))
theorem Coder.keep(h:Coder w lo B g ls)(hk:∀b,lo<=b->b<B->w'.heap[b]? =w.heap[b]?):Coder w' lo B g ls:=by
 have hg:=hk g h.ge h.lt;have hc:∀p:Addr,lo<=p.block->p.block<B->w'.cell? p=w.cell? p:=fun p h1 h2=>World.cell?_of_block (hk p.block h1 h2);have j:∀i,w'.cell? ⟨g,i,none⟩=w.cell? ⟨g,i,none⟩:=fun i=>World.cell?_of_block (a:=⟨g,i,none⟩) hg;refine⟨h.ge,h.lt,fun i=>(World.frozen?_of_block (a:=⟨g,i,none⟩) hg).trans (h.free i),?_,?_,fun l hl=>(j _).trans (h.first l hl),fun l hl=>(j _).trans (h.many l hl),fun l hl=> ?_⟩
 ·obtain⟨A,c,h1,h2⟩:=h.lens;exact⟨A,c,(j _).trans h1,h2.keep hc⟩
 ·obtain⟨A,c,h1,h2⟩:=h.codes;exact⟨A,c,(j _).trans h1,h2.keep hc⟩
 ·obtain⟨A,c,h1,h2⟩:=h.syms l hl;exact⟨A,c,(j _).trans h1,h2.keep hc⟩
theorem Coder.below(h:Coder w lo B g ls){C:Nat}(hb:Below C w w')(hC:B<=C):Coder w' lo B g ls:=
 h.keep fun b _ h2=>hb.block b nB
theorem Coder.mono{lo' B':Nat}(h:Coder w lo B g ls)(hl:lo'<=lo)(hB:B<=B'):Coder w lo' B' g ls:=by
 refine⟨by have:=h.ge;omega,by have:=h.lt;omega,h.free,?_,?_,h.first,h.many,fun l hx=> ?_⟩
 ·obtain⟨A,c,h1,h2⟩:=h.lens;exact⟨A,c,h1,h2.mono hl hB⟩
 ·obtain⟨A,c,h1,h2⟩:=h.codes;exact⟨A,c,h1,h2.mono hl hB⟩
 ·obtain⟨A,c,h1,h2⟩:=h.syms l hx;exact⟨A,c,h1,h2.mono hl hB⟩
theorem bY{w2 wr:World}{gc n c2:Nat}{A2:Option Addr}{sv:Nat->Value}{cs arr:Array Value}(hn:ls.length=n)(L:lo<=w.heap.size)(z1:w.heap.size<=g)(hg:g=w2.heap.size)
 (blk:Blk wr g 364 cs)(hC:Cells ls n (.slice A2 n c2) (.slice (some ⟨gc,0,none⟩) n n) sv cs)(hR:Rows wr (g+1) ls n sv)(h:Below g w2 wr)
 (E:w2.ownsRow w 5 1 (.slice A2 n c2) n (bZ .u8 ls))(G:Blk w2 gc 25 arr)(M:lo<=gc)(hW:Wds ls n n arr):Coder wr lo wr g ls:=by
 subst hn hg;have rz:=h.size;have J:ls.take ls.length=ls:=Bp (Am _);refine⟨nB,blk.lt,blk.frozen,⟨A2,c2,(blk.cell 0).trans hC.lens,?_⟩,⟨some ⟨gc,0,none⟩,ls.length,(blk.cell 1).trans hC.codes,?_⟩,fun l hl=>(blk.cell _).trans (hC.first l hl),fun l hl=> ?_,fun l hl=> ?_⟩
 ·have:=RowIn.of_own (f:=kZ .u8 ls) E rfl (fun i j hi hj=>by have e0:j=0:=nB;subst e0;exact numL_get hi);exact(this.keep (fun p _ h2=>h.cell h2)).mono L rz
 ·have:=RowIn.of_blk (n:=ls.length) (s:=1) (lo:=lo) (B:=w2.heap.size) (f:=fun i _=> .int .u16 (EH ls i:Nat)) G M G.lt (fun i j hi hj=>by
   obtain rfl:j=0:=nB
   rw[EK,Cw,hW.2 i hi,Ag hi])
  exact(this.keep (fun p _ h2=>h.cell h2)).mono (Am _) rz
 ·have:=hC.many l hl;rw[J]at this;exact(blk.cell _).trans this
 ·have h1:=hR.own l hl;rw[J]at h1;obtain⟨A,c,e⟩:=aZ h1;have h2:=hC.syms l hl;rw[e]at h2;refine⟨A,c,(blk.cell _).trans h2,?_⟩;exact(RowIn.of_own (f:=kZ .i64 (Fs ls l)) h1 e (fun i j hi hj=>by have e0:j=0:=nB;subst e0;exact numL_get (by rw[bI];exact hi))).mono nB (Am _)
end Huff
namespace Huff
open Go.RowKit Mem Canon Own
theorem aW:(prog.info? 3).map (fun i=>(i.zero,i.size,i.bytes))=some (some (.int .i64 0),1,8):=ni
def XT(ls:List Nat)(w:World)(e:Ending)(w':World):Prop:=
 ∃g,e= .returned (.tuple #[.pointer (some ⟨g,0,none⟩),jd])/\Coder w' w w' g ls/\Below w w w'
theorem new_any(w:World)(A:Option Addr)(n c:Nat)(ls:List Nat)(hn:ls.length=n)(ak:okB ls=true)(am:A=none->n=0/\c=0)(ha:Row w w A n 1 (kZ .u8 ls)):
 Calls prog 277 #[.slice A n c] w (XT ls w):=by
 obtain⟨az,a3,_⟩:=ok_parts ak;rw[hn]at az;have C1:=hid (V6 w A n c ls hn ak ha);have C2:=hid (fun wx (h:Row wx wx A n 1 (kZ .u8 ls))=>IM wx A n c ls hn nB am h);have HN:=hid hn;have bg:=hid a3;have bj:=hid ak;obtain⟨j0,bd,bb,a9,ba⟩:=info_parts aW;clear hn ak a3 am;go_enter func277,ntmps277;go_wp2_with fail;refine C1.out.mono ?_;rintro e w1 ⟨gc,arr,rfl,bc,hw,bi,aq⟩;have z1:=aq.size;go_wp2_with fail;refine(C2.out _ ((ha.below aq).mono z1)).mono ?_;rintro e w2 ⟨vl,rfl,ai,au⟩;have z2:=au.size;have aw:=bc.step au;have U:Below w w w2:=zZ au z1 aq;have HW:=hid hw;have a0:=aw.lt;have bh:=(ha.below U).mono U.size;clear hw bc C1 C2;obtain⟨A2,c2,rfl⟩:=aZ ai;go_wp2_with fail;go_loopw [25] (fun i wr=>∃ (k:Nat) (sv:Nat->Value) (cs:Array Value),k<=n/\i= .int .i64 k/\Blk wr w2 364 cs/\Hid (Cells ls k (.slice A2 n c2) (.slice (some ⟨gc,0,none⟩) n n) sv cs)/\Hid (Rows wr (w2.heap.size+1) ls k sv)/\Below w2 w2 wr) (fun i _=>n-(intOf i).toNat)
 case atStart=>exact⟨0,_,_,nB,rfl,Blk.made _ _ _,Cells.start ls _ _,Rows.start _ _ _,cZ (Ak _ _)⟩
 case round=>
  obtain⟨k,sv,cs,hk,rfl,blk,hC,hR,J⟩:=hrel;have rz:=J.size;by_cases ar:k<n
  ·obtain⟨b,bn,x,rfl,bp,hx,c0⟩:=Dg (bh.below J) HN.out ar;have HX:=hid hx;have Y:=bg.out x (AY hx);have x0:(0:Int)<=(k:Int):=nB;have x1:(k:Int)<(n:Int):=nB;clear hx;by_cases ae:x=0
   ·subst ae;go_wp2_with fail;go_roundw
    case rel=>go_light;exact⟨k+1,sv,cs,nB,lj,blk,hC.out.skip HX.out,hR.out.skip HX.out,J⟩
    case measure=>exact ld
   ·have a6:=Jm (ls.take k) x;rw[Bc]at a6;have xp:0<x:=nB;have y0:(0:Int)<=(x:Int):=nB;have y1:(x:Int)<16:=nB;have m0:=blk.cell (18+x);rw[hC.out.many x nB]at m0;obtain⟨q,hq⟩:=jc (cn (ls.take k) x);rw[<-hq]at m0 a6;have HQ:=hid hq;clear hq;by_cases al:q=0
    ·have bm:((q:Int)==0)=true:=p5;have a1:=hid al;clear al;have d0:=(aw.below J a0).cell k;rw[HW.out.2 k ar,Ag ar]at d0;have f0:=blk.frozen (2+x);have f1:=blk.cell (2+x);rw[hC.out.first x nB]at f1;have be:=Pe bj.out HX.out ae;have ay:code ls k<65536:=Fi be (by have:2 ^ x<=2 ^ 15:=Cf nB Y;omega);have hv:EH ls k=code ls k:=Nat.mod_eq_of_lt ay;have M:=fun v=>hC.out.fresh (v:=v) HX.out ae Y (HQ.out.symm.trans a1.out);rw[hv]at d0;generalize code ls k=v at *;have a4:=hid M;clear hv M be;go_upto_region 10 with fail;go_region;have E:=(blk.set (2+x) (.int .i64 (v:Nat))).drew;have ag:Hid (∀v',Cells ls (k+1) (.slice A2 n c2) (.slice (some ⟨gc,0,none⟩) n n) (upd sv x v') (((cs.setIfInBounds (2+x) (.int .i64 (v:Nat))).setIfInBounds (18+x) (.int .i64 ((q:Int)+1))).setIfInBounds (34+x) v')):=(by rw[a1.out];exact a4.out);clear a4;have N:(cs.setIfInBounds (2+x) (.int .i64 (v:Nat)))[18+x]? =some (.int .i64 ((q:Nat):Int)):=(by rw[Array.getElem?_setIfInBounds_ne nB,hC.out.many x nB,<-HQ.out]);have Q:(cs.setIfInBounds (2+x) (.int .i64 (v:Nat)))[34+x]? =some (sv x):=(by rw[Array.getElem?_setIfInBounds_ne nB,hC.out.syms x nB]);have RA:=hid ((hR.out.set blk ji (2+x) (.int .i64 (v:Nat))).drew);have belA:=(BN (p:=⟨w2.heap.size,2+x,none⟩) (u:= .int .i64 (v:Nat)) (Am _) J).drew;have zA:=belA.size;clear m0 f0 f1 d0 c0 blk J rz;generalize cs.setIfInBounds (2+x) (.int .i64 (v:Nat))=bk at *;generalize (wr.setCell ⟨w2.heap.size,2+x,none⟩ (.int .i64 (v:Nat))).drew=wA at *;have mA:=E.cell (18+x);rw[N]at mA;have fA:=E.frozen (18+x);have s1:IntKind.i64.wrap ((q:Int)+1)=(q:Int)+1:=Az _ nB;go_upto_region 11 with fail;go_region;clear s1 mA fA;have G:=(E.set (18+x) (.int .i64 ((q:Int)+1))).drew;have RB:=hid ((RA.out.set E ji (18+x) (.int .i64 ((q:Int)+1))).drew);have aa:=(BN (p:=⟨w2.heap.size,18+x,none⟩) (u:= .int .i64 ((q:Int)+1)) (Am _) belA).drew;have zB:=aa.size;have sB:=G.cell (34+x);rw[Array.getElem?_setIfInBounds_ne nB,Q]at sB;have fB:=G.frozen (34+x);have j:=RB.out.own x nB;rw[<-HQ.out]at j;have ah:=iZ j G ji;obtain⟨AS,cS,ab⟩:=aZ j;have af:=hid ab;rw[ab]at sB j ah;clear N Q E RA belA zA ab;generalize (wA.setCell ⟨w2.heap.size,18+x,none⟩ (.int .i64 ((q:Int)+1))).drew=wB at *;have av:=G.lt;have aj:some w2.heap.size≠(Value.slice AS q cS).ownBlock:=By ah;go_upto_region 12 with fail;go_region_law((refine step_append_lies _ nC _ _ _ nC (w2.heap.size+1) 3 j0 _ 1 8 underlying37 bd bb a9 ba rfl nB (.slice AS q cS) q (bZ .i64 (Fs (ls.take k) x)) nC ((j.alloc _).drew) ⟨wB,0,none⟩ 1 1 [.int .i64 (k:Nat)] nC nC (World.news_of_block (cs:=#[.int .i64 (k:Nat)]) (t:=3) (fr:=(0,0)) (heap_alloc_new wB _)) na nB qn nB p5 (wB.heap.size+1) pR ?_;intro g3 a5 w3 ac L an bf;have gb:w3.heap[w2.heap.size]? =wB.heap[w2.heap.size]? :=(L.block w2 p5 aj).trans (EA wB _ w2 av);have p3:=(World.cell?_of_block (a:=⟨w2.heap.size,34+x,none⟩) gb).trans sB;have p4:=(World.frozen?_of_block (a:=⟨w2.heap.size,34+x,none⟩) gb).trans fB))
     all_goals
      go_wp2_with fail;go_roundw
      case measure=>exact ld
      case rel=>go_light;have Z:Blk w3 w2 364 _:=gb.trans G;have ax:=Rows.push ((RB.out.alloc _).drew) HX.out ae Y HQ.out.symm ac (by rw[af.out];exact L) (by rw[af.out];simpa using an);refine⟨k+1,_,_,nB,lj,Z.set _ _,ag.out _,ax.set Z ji _ _,BN (p:=⟨w2.heap.size,34+x,none⟩) (Am _) (((mZ zB aa).drew).grown L p5 (fun y hy=> ?_))⟩;have:=(Ai j y hy).1;omega
    ·have bl:((q:Int)==0)=false:=p5;have M:=fun v=>hC.out.next (v:=v) HX.out ae Y HQ.out.symm al;have ag:Hid (∀v',Cells ls (k+1) (.slice A2 n c2) (.slice (some ⟨gc,0,none⟩) n n) (upd sv x v') ((cs.setIfInBounds (18+x) (.int .i64 ((q:Int)+1))).setIfInBounds (34+x) v')):=M;have N:cs[18+x]? =some (.int .i64 ((q:Nat):Int)):=(by rw[hC.out.many x nB,<-HQ.out]);have Q:=hC.out.syms x nB;have RA:=hR;have belA:=J;have zA:=rz;have E:=blk;obtain⟨wA,rfl⟩:=jc wr;clear blk J rz M al;have mA:=E.cell (18+x);rw[N]at mA;have fA:=E.frozen (18+x);have s1:IntKind.i64.wrap ((q:Int)+1)=(q:Int)+1:=Az _ nB;go_upto_region 11 with fail;go_region;clear s1 mA fA;have G:=(E.set (18+x) (.int .i64 ((q:Int)+1))).drew;have RB:=hid ((RA.out.set E ji (18+x) (.int .i64 ((q:Int)+1))).drew);have aa:=(BN (p:=⟨w2.heap.size,18+x,none⟩) (u:= .int .i64 ((q:Int)+1)) (Am _) belA).drew;have zB:=aa.size;have sB:=G.cell (34+x);rw[Array.getElem?_setIfInBounds_ne nB,Q]at sB;have fB:=G.frozen (34+x);have j:=RB.out.own x nB;rw[<-HQ.out]at j;have ah:=iZ j G ji;obtain⟨AS,cS,ab⟩:=aZ j;have af:=hid ab;rw[ab]at sB j ah;clear N Q E RA belA zA ab;generalize (wA.setCell ⟨w2.heap.size,18+x,none⟩ (.int .i64 ((q:Int)+1))).drew=wB at *;have av:=G.lt;have aj:some w2.heap.size≠(Value.slice AS q cS).ownBlock:=By ah;go_upto_region 12 with fail;go_region_law((refine step_append_lies _ nC _ _ _ nC (w2.heap.size+1) 3 j0 _ 1 8 underlying37 bd bb a9 ba rfl nB (.slice AS q cS) q (bZ .i64 (Fs (ls.take k) x)) nC ((j.alloc _).drew) ⟨wB,0,none⟩ 1 1 [.int .i64 (k:Nat)] nC nC (World.news_of_block (cs:=#[.int .i64 (k:Nat)]) (t:=3) (fr:=(0,0)) (heap_alloc_new wB _)) na nB qn nB p5 (wB.heap.size+1) pR ?_;intro g3 a5 w3 ac L an bf;have gb:w3.heap[w2.heap.size]? =wB.heap[w2.heap.size]? :=(L.block w2 p5 aj).trans (EA wB _ w2 av);have p3:=(World.cell?_of_block (a:=⟨w2.heap.size,34+x,none⟩) gb).trans sB;have p4:=(World.frozen?_of_block (a:=⟨w2.heap.size,34+x,none⟩) gb).trans fB))
     all_goals
      go_wp2_with fail;go_roundw
      case measure=>exact ld
      case rel=>go_light;have Z:Blk w3 w2 364 _:=gb.trans G;have ax:=Rows.push ((RB.out.alloc _).drew) HX.out ae Y HQ.out.symm ac (by rw[af.out];exact L) (by rw[af.out];simpa using an);refine⟨k+1,_,_,nB,lj,Z.set _ _,ag.out _,ax.set Z ji _ _,BN (p:=⟨w2.heap.size,34+x,none⟩) (Am _) (((mZ zB aa).drew).grown L p5 (fun y hy=> ?_))⟩;have:=(Ai j y hy).1;omega
  ·obtain rfl:k=n:=by omega
   go_wp2_with fail;go_ret2;exact⟨w2.heap.size,rfl,bY HN.out z1 z2 rfl blk hC.out hR.out J ai aw bi HW.out,U.trans (J.mono U.size)⟩
end Huff
namespace Huff
open Go.RowKit Mem Canon Own
theorem Coder.drew(h:Coder w lo B g ls):Coder w.drew lo B g ls:=h.keep fun _ _ _=>rfl
theorem Coder.kept{K:Nat->Prop}(h:Coder w lo B g ls)(hk:Kept K w w')(hK:∀k,lo<=k->k<B->K k):Coder w' lo B g ls:=h.keep fun b h1 h2=>hk.block b (hK b h1 h2)
end Huff
namespace Canon
open Huff
def BZ(ls:List Nat)(i:Nat):Nat->Nat
 |0=>0
 |c+1=>if ls[i]? =some 0 then BZ ls (i+1) c+1 else 0
theorem OI(ls:List Nat):∀ (c i:Nat),BZ ls i c<=c
 |0,_=>Am _
 |c+1,i=>by unfold BZ;have:=OI ls c (i+1);split<;>omega
theorem MH(ls:List Nat):∀ (c i:Nat),i<=ls.length->i+BZ ls i c<=ls.length
 |0,i,h=>by simpa[BZ]using h
 |c+1,i,h=>by
  unfold BZ;split
  ·rename_i h0;have hl:=(BS.1 h0).1;have:=MH ls c (i+1) hl;omega
  ·exact h
def DV(ls:List Nat):Nat->Nat->List Bool
 |0,_=> []
 |f+1,i=>
  if i<ls.length then
   if ls.getD i 0=0 then msb 0 4 4++(msb (BZ ls i 64-1) 6 6++DV ls f (i+BZ ls i 64))
   else msb (ls.getD i 0) 4 4++DV ls f (i+1)
  else []
def Fk(ls:List Nat):List Bool:=DV ls ls.length 0
theorem Ko(ls:List Nat)(f i:Nat)(h:ls.length<=i):DV ls f i= []:=by
 cases f with
 |zero=>rfl
 |succ f=>unfold DV;rw[Ae nB]
theorem KT(h:ls[i]? =some 0)(c:Nat):BZ ls i (c+1)=BZ ls (i+1) c+1:=by rw[BZ,Ag h]
theorem KI(ls:List Nat):∀ (f f' i:Nat),ls.length<=i+f->ls.length<=i+f'->DV ls f i=DV ls f' i
 |0,f',i,h,_=>by rw[Ko ls 0 i h,Ko ls f' i h]
 |f+1,0,i,_,h=>by rw[Ko ls 0 i h,Ko ls (f+1) i h]
 |f+1,f'+1,i,h,h'=>by
  unfold DV;by_cases hi:i<ls.length
  ·rw[Ag hi,Ag hi];by_cases h0:ls.getD i 0=0
   ·rw[Ag h0,Ag h0];have hz:ls[i]? =some 0:=(by rw[Aq,AD hi]at h0;rw[AD hi];exact AM some h0);have j:BZ ls i 64=BZ ls (i+1) 63+1:=KT hz 63;rw[KI ls f f' (i+BZ ls i 64) nB nB]
   ·rw[Ae h0,Ae h0,KI ls f f' (i+1) nB nB]
  ·rw[Ae hi,Ae hi]
theorem wrGo_length(ls:List Nat):∀ (f i:Nat),(DV ls f i).length<=10*f
 |0,_=>Am _
 |f+1,i=>by
  unfold DV;split
  ·split
   ·rw[Aj,Aj,uZ,uZ];have:=wrGo_length ls f (i+BZ ls i 64);omega
   ·rw[Aj,uZ];have:=wrGo_length ls f (i+1);omega
  ·simp
end Canon
namespace Huff
open Go.RowKit Mem Canon Own
theorem aB:∀ {c:Nat},r<=c->(∀j,j<r->ls[i+j]? =some 0)->BZ ls i c=r+BZ ls (i+r) (c-r):=by
 induction r generalizing i with
 |zero=>intro c _ _;simp
 |succ r ih=>
  intro c hc h;obtain⟨c,rfl⟩:∃d,c=d+1:=⟨c-1,nB⟩;have h0:ls[i]? =some 0:=by simpa using h 0 nB
  rw[KT h0,ih (i:=i+1) (c:=c) nB (fun j hj=>by have:=h (j+1) nB;rwa [show i+(j+1)=i+1+j by omega]at this)];rw[show i+1+r=i+(r+1) by omega,show c+1-(r+1)=c-r by omega];omega
theorem fS(h:r<=64)(hz:∀j,j<r->ls[i+j]? =some 0)(he:r=64∨ls[i+r]? ≠some 0):BZ ls i 64=r:=by
 rw[aB h hz];rcases he with rfl|he
 ·simp[BZ]
 ·by_cases h2:r=64
  ·subst h2;simp[BZ]
  ·obtain⟨c,hc⟩:∃c,64-r=c+1:=⟨63-r,nB⟩;rw[hc,BZ,Ae he];omega
end Huff
namespace Huff
open Go.RowKit Mem Canon Own
theorem Ti(K:Nat->Prop)(w:World)(g base:Nat)(v:Value)(bs:List Bool)(A:Option Addr)(n c:Nat)(ls:List Nat)(hn:ls.length=n)(hN:n<=9223372036854775807)(ak:okB ls=true)(au:0<n->∀p,A=some p->K p.block)(ha:Row w w A n 1 (kZ .u8 ls))(an:bs.length+10*n<=5000000)(hW:RW K w base g bs v):
 Calls prog 205 #[.pointer (some ⟨g,0,none⟩), .slice A n c] w fun e w'=>e= .returned (.int .i64 0)/\∃v',RW K w' base g (bs++Fk ls) v'/\Kept K w w':=by
 have hE:FG ls=0:=by unfold FG;rw[Ag ak]
 have C0:=refcheck_any w A n c ls hn hN ha;rw[hE]at C0;have C0:=hid C0;obtain⟨_,ar,_⟩:=ok_parts ak;have HN:=hid hn;have ay:=hid ar;have ah:=hid an;have HW:=hid hW;have HA:=hid ha;have a3:=hid au;clear hn ak hE ar an hW ha au;go_enter func205,ntmps205;go_wp2_with fail;refine C0.out.mono ?_;rintro e w1 ⟨rfl,rfl⟩;go_wp2_with fail;go_loopw [5] (fun i wr=>∃ (k:Nat) (v:Value) (b:List Bool),k<=n/\i= .int .i64 k/\Hid (RW K wr base g b v)/\Hid (b++DV ls n k=bs++Fk ls)/\Hid (b.length<=bs.length+10*k)/\Hid (Kept K w wr)) (fun i _=>n-(intOf i).toNat)
 case atStart=>exact⟨0,v,bs,nB,rfl,HW.out,by show _=_;unfold Fk;rw[HN.out],pE,Kept.refl _ _⟩
 case round=>
  clear HW;obtain⟨k,v1,b1,hk,rfl,HW,HG,HL,HK⟩:=hrel;have E:=HG.out;have aj:=HL.out;have af:=ah.out;by_cases aw:k<n
  ·obtain⟨ob,ag,x,rfl,bc,hx,c0⟩:=Dg HA.out HN.out aw;have aa:=hid (a3.out nB _ rfl);simp only at aa;have c1:=(World.cell?_of_block (a:=⟨ob,ag+k,none⟩) (HK.out.block ob aa.out)).trans c0;have a6:=ay.out x (AY hx);have y0:(0:Int)<=(k:Int):=nB;have y1:(k:Int)<(n:Int):=nB;have am:ls.getD k 0=x:=(by rw[Aq,hx];rfl);have al:DV ls n k=DV ls (n-k-1+1) k:=KI ls _ _ _ mR mR;rw[al]at E;unfold DV at E;rw[HN.out,Ag aw,am]at E;have D:=hid (IZ K wr g base v1 b1 x 4 nB nB nB HW.out);have s1:IntKind.u64.wrap (x:Int)=(x:Int):=n4;by_cases h0:x=0
   ·subst h0;rw[Ag rfl]at E;have ax:=MH ls 64 k mR;have ai:ls[k]? =some 0:=hx;have az:1<=BZ ls k 64:=(by have:=KT ai 63;show 1<=BZ ls k (63+1);omega);have av:=OI ls 64 k;rw[HN.out]at ax;rw[KI ls (n-k-1) n (k+BZ ls k 64) mR mR]at E;have J:=hid E;have a0:=hid ai;clear E hx c0 am al ax ai az av HG af aj HW;go_wp2_with fail;refine D.out.mono ?_;rintro e w2 ⟨rfl,v2,ac,N⟩;have c2:=(World.cell?_of_block (a:=⟨ob,ag+k,none⟩) (N.block ob aa.out)).trans c1;have Z:=hid ac;have U:Hid (Kept K w w2):=HK.out.trans N;clear ac N D HK c1;go_wp2_with fail;go_loopw [5,6] (fun iv rv wx=>∃s:Nat,s<=63/\k+s<n/\iv= .int .i64 ((k:Int)+(s:Int))/\rv= .int .i64 s/\Hid (∀j,j<s+1->ls[k+j]? =some 0)/\wx=w2) (fun _ rv _=>64-(intOf rv).toNat)
    case atStart=>exact⟨0,nB,nB,by first|rfl|simp,rfl,(fun j hj=>by obtain rfl:j=0:=nB;exact a0.out),rfl⟩
    case round=>
     obtain⟨s,bb,be,rfl,rfl,hz,rfl⟩:=hrel;have done:(s+1=64∨ls[k+(s+1)]? ≠some 0)->Hid (BZ ls k 64=s+1):=fun h=>fS nB hz.out h;have x1:IntKind.i64.wrap ((k:Int)+(s:Int)+1)=(k:Int)+(s:Int)+1:=oK;by_cases hB:k+(s+1)<n
     ·obtain⟨_,_,y,e9,_,hy,d0⟩:=Dg HA.out HN.out hB;injection e9 with e9;injection e9 with e8 e7;subst e8 e7;have d1:=(World.cell?_of_block (a:=⟨ob,ag+(k+(s+1)),none⟩) (U.out.block ob aa.out)).trans d0;have a5:=ja ((k:Int)+(s:Int)+1<(n:Int));have bd:(0:Int)<=(k:Int)+(s:Int)+1:=nB;have ba:(k:Int)+(s:Int)+1<(n:Int):=nB;have a9:((k:Int)+(s:Int)+1).toNat=k+(s+1):=nB;by_cases hC:y=0
      ·subst hC;by_cases hA:s<63
       ·have a1:=ja ((s:Int)<63);have a2:decide (s<63)=true:=by simpa using hA
        have a4:Hid (∀j,j<s+1+1->ls[k+j]? =some 0):=by
         intro j hj;by_cases e:j=s+1
         ·subst e;exact hy
         ·exact hz.out j nB
        have hA2:s+1<=63:=hA;clear hy d0 done;go_wp2_with fail;go_roundw
        case measure=>exact ld
        case rel=>go_light;refine⟨s+1,hA2,hB,lj,lj,a4,?_⟩;first|rfl|trivial
       ·have a1:=jb ((s:Int)<63);have a2:decide (s<63)=false:=(by simpa using hA);have HZ:=done (.inl nB);clear hy d0 done;obtain⟨q,hq⟩:=jc s;have x3:IntKind.u64.wrap (s:Int)=(s:Int):=n4;have G:=J.out;rw[HZ.out,show s+1-1=s by omega,<-AK,<-AK]at G;have ab:=hid G;have D2:=hid (IZ K wr g base v2 (b1++msb 0 4 4) s 6 (show s<64 by omega) nB nS Z.out);have Q:Hid ((b1++msb 0 4 4++msb s 6 6).length<=bs.length+10*(k+(s+1))):=pF;clear hq G J;go_wp2_with fail;refine D2.out.mono ?_;rintro e w3 ⟨rfl,v3,L,M⟩;have ae:=hid L;have Y:Hid (Kept K w w3):=U.out.trans M;clear L M D2;go_wp2_with fail;go_roundw
        case measure=>exact ld
        case rel=>exact jz
      ·have c5:((y:Int)==0)=false:=p5;have HZ:=done (.inr (by rw[hy];simpa using hC));clear hy d0 hC done;obtain⟨q,hq⟩:=jc s;have x3:IntKind.u64.wrap (s:Int)=(s:Int):=n4;have G:=J.out;rw[HZ.out,show s+1-1=s by omega,<-AK,<-AK]at G;have ab:=hid G;have D2:=hid (IZ K wr g base v2 (b1++msb 0 4 4) s 6 (show s<64 by omega) nB nS Z.out);have Q:Hid ((b1++msb 0 4 4++msb s 6 6).length<=bs.length+10*(k+(s+1))):=pF;clear hq G J;go_wp2_with fail;refine D2.out.mono ?_;rintro e w3 ⟨rfl,v3,L,M⟩;have ae:=hid L;have Y:Hid (Kept K w w3):=U.out.trans M;clear L M D2;go_wp2_with fail;go_roundw
       case measure=>exact ld
       case rel=>exact jz
     ·have a5:=jb ((k:Int)+(s:Int)+1<(n:Int));have HZ:=done (.inr (by rw[FO mR];simp));clear done;obtain⟨q,hq⟩:=jc s;have x3:IntKind.u64.wrap (s:Int)=(s:Int):=n4;have G:=J.out;rw[HZ.out,show s+1-1=s by omega,<-AK,<-AK]at G;have ab:=hid G;have D2:=hid (IZ K wr g base v2 (b1++msb 0 4 4) s 6 (show s<64 by omega) nB nS Z.out);have Q:Hid ((b1++msb 0 4 4++msb s 6 6).length<=bs.length+10*(k+(s+1))):=pF;clear hq G J;go_wp2_with fail;refine D2.out.mono ?_;rintro e w3 ⟨rfl,v3,L,M⟩;have ae:=hid L;have Y:Hid (Kept K w w3):=U.out.trans M;clear L M D2;go_wp2_with fail;go_roundw
      case measure=>exact ld
      case rel=>exact jz
   ·have aq:0<x:=nB;rw[Ae h0,KI ls (n-k-1) n (k+1) mR mR,<-AK]at E;have k1:decide (0<x)=true:=(by simpa using aq);have k2:decide ((0:Int)<(x:Int))=true:=(by simpa using aq);have J:=hid E;have Q:Hid ((b1++msb x 4 4).length<=bs.length+10*(k+1)):=(by show _<=_;rw[Aj,uZ];omega);clear E aj af hx c0 am al h0 HG HW HL;go_wp2_with fail;refine D.out.mono ?_;rintro e w2 ⟨rfl,v2,ac,N⟩;have c2:=(World.cell?_of_block (a:=⟨ob,ag+k,none⟩) (N.block ob aa.out)).trans c1;have Z:=hid ac;have U:Hid (Kept K w w2):=HK.out.trans N;clear ac N D c1;go_wp2_with fail;go_roundw
    case measure=>exact ld
    case rel=>go_light;exact⟨k+1,v2,_,nB,lj,Z.out,J.out,Q.out,U.out⟩
  ·obtain rfl:k=n:=by omega
   rw[Ko ls k k mR,Cx]at E;have J:=hid E;clear E aj af HG;go_wp2_with fail;go_ret;rw[<-J.out];exact⟨rfl,v1,HW.out,HK.out⟩
end Huff
namespace Huff
open Go.RowKit Mem Canon Own
structure RCo (w:World) (lo B:Nat) (vl vc:Value) (ls:List Nat):Prop where
 lens:∃A c,vl= .slice A ls.length c/\RowIn w lo B A ls.length 1 (kZ .u8 ls)
 codes:∃A c,vc= .slice A ls.length c/\RowIn w lo B A ls.length 1 (fun i _=> .int .u16 (EH ls i:Nat))
theorem RCo.kept{K:Nat->Prop}(h:RCo w lo B vl vc ls)(hk:Kept K w w')(hK:∀k,lo<=k->k<B->K k):RCo w' lo B vl vc ls:=by have hc:∀p:Addr,lo<=p.block->p.block<B->w'.cell? p=w.cell? p:=fun p h1 h2=>World.cell?_of_block (hk.block p.block (hK _ h1 h2));obtain⟨A,c,e,hr⟩:=h.lens;obtain⟨A',c',e',i⟩:=h.codes;exact⟨⟨A,c,e,hr.keep hc⟩,⟨A',c',e',i.keep hc⟩⟩
def OD(ls:List Nat)(w:World)(e:Ending)(w':World):Prop:=
 ∃vl vc,e= .returned (.tuple #[.agg #[vl,vc],jd])/\RCo w' w w' vl vc ls/\Below w w w'
theorem Y4:(prog.info? 272).map (·.size)=some 2:=ni
theorem To(w:World)(A:Option Addr)(n c:Nat)(ls:List Nat)(hn:ls.length=n)(aa:okB ls=true)(Y:A=none->n=0/\c=0)(ha:Row w w A n 1 (kZ .u8 ls)):
 Calls prog 206 #[.slice A n c] w (OD ls w):=by
 obtain⟨j0,am,al,ah,aj⟩:=info_parts CW;obtain⟨ab,_,_⟩:=ok_parts aa;rw[hn]at ab;have C:=hid (fun wx (h:Row wx wx A n 1 (kZ .u8 ls))=>bH wx A n c ls hn aa h);have HN:=hid hn;have af:=hid Y;clear hn aa Y;go_enter func206,ntmps206;go_wp2_with fail;refine(C.out _ ((ha.alloc (Am _) _).mono pR)).mono ?_;rintro e w1 ⟨vc,rfl,N,Q⟩;obtain⟨AC,cC,rfl⟩:=aZ N;have z1:=Q.size;simp at z1;have E:Blk w1 w 272 _:=(Blk.made w _ _).step Q;have ak:=E.lt;have G:Below w w w1:=(cZ (Ak _ _)).trans (Q.mono pR);have L:=J0 (c:=c) (ha.below G) HN.out af.out
 have U:Src (w1.alloc (.cells #[] 5)) A n c 1 (bZ .u8 ls):=by
  refine⟨L.1,?_⟩;rcases L.2 with h|⟨ad,h1,h2⟩
  ·exact .inl h
  ·refine .inr ⟨ad,h1,fun j u hu=> ?_⟩;have hc:=h2 j u hu;exact(World.cell?_of_block (EA w1 _ _ (World.block_lt_of_cell? _ _ hc))).trans hc
 have Z:(w1.alloc (.cells #[] 5)).ownsRow w1 5 1 (.slice (some ⟨w1,0,none⟩) 0 0) 0 []:=World.ownsRow_made w1 #[] 0 (Am _) qn rfl;have c0:=E.iy 0;have c1:=E.iy 1;have f0:=E.frozen 0;have f1:=E.frozen 1;have ae:=hid U;have HB:=hid G;have ai:=hid N;clear L U G ha C Q N;go_wp2_with(at_builtin;refine fZ rfl (.tmp 15) (.tmp 16) 28 rfl w1 5 j0 _ 1 1 underlying28 am al ah aj rfl ji _ _ _ nC Z _ n _ (bZ .u8 ls) nC ae.out (qZ _ _) qn nB pR ?_;intro v3 w3 J ag an;obtain⟨A3,c3,rfl⟩:=aZ J;have gb:=(ag.block w p5 (by simp[Value.ownBlock];omega)).trans (EA w1 _ _ ak);have p0:=(World.cell?_of_block (a:=⟨w,0,none⟩) gb).trans c0;have p1:=(World.cell?_of_block (a:=⟨w,1,none⟩) gb).trans c1;have q0:=(World.frozen?_of_block (a:=⟨w,0,none⟩) gb).trans f0;have q1:=(World.frozen?_of_block (a:=⟨w,1,none⟩) gb).trans f1);rw[B0,Ey]at J;have ac:Blk w3 w _ _:=gb.trans E;have M:Below w1 w1 w3:=(cZ (Ak _ _)).grown ag pR (fun k hk=>by simp[Value.ownBlock]at hk;omega);have z3:=M.size;refine Df (Canon.results_cell_tmp rfl _ _ w.heap.size _ #[.slice A3 n c3, .slice AC n cC] _ (.int .i64 0) rfl rfl ((ac.set 0 (.slice A3 n c3)).set 1 (.slice AC n cC)) underlying272 rfl Y4) rfl ⟨_,_,rfl,⟨⟨A3,c3,by rw[HN.out],?_⟩,⟨AC,cC,by rw[HN.out],?_⟩⟩,?_⟩
 ·have h:=RowIn.of_own (f:=kZ .u8 ls) (s:=1) J rfl (fun i j hi hj=>by have e0:j=0:=nB;subst e0;exact numL_get (by rw[HN.out];exact hi));rw[HN.out];refine(h.keep fun p h1 _=>World.cell?_of_block ?_).mono nB pR;exact(Be _ _ _ _ p5).trans (Be _ _ _ _ p5)
 ·have h:=RowIn.of_own (f:=fun i _=> .int .u16 (EH ls i:Nat)) (s:=1) ai.out rfl (fun i j hi hj=>by have e0:j=0:=nB;subst e0;simp[hi]);rw[HN.out];refine(h.keep fun p h1 h2=>World.cell?_of_block ?_).mono pR p5;simp at h1;exact((Be _ _ _ _ p5).trans (Be _ _ _ _ p5)).trans (M.block _ h2)
 ·exact BN (p:=⟨w,1,none⟩) (Am _) (BN (p:=⟨w,0,none⟩) (Am _) (HB.out.trans (M.mono nB)))
end Huff
namespace Huff
open Go.RowKit Mem Canon Own
theorem rbytes_any(w:World)(g:Nat)(A:Option Addr)(q c:Nat)(bs:List Bool)(hq:bs.length=q)(ak:q<=6000000)(hg:w.cell? ⟨g,0,none⟩=some (.slice A q c))(af:g<w.heap.size)(ha:Row w w A q 1 (kZ .u8 (b01 bs))):
 Calls prog 136 #[.pointer (some ⟨g,0,none⟩)] w fun e w'=>∃v,e= .returned v/\w'.ownsRow w 5 1 v (bytesOf bs).length (bZ .u8 (bytesOf bs))/\Below w w w':=by
 obtain⟨j0,ah,ac,Z,ab⟩:=info_parts CW;have HQ:=hid hq;clear hq;go_enter func136,ntmps136;go_wp2_with fail;go_loopw [3,4] (fun u i wr=>∃k:Nat,8*k<=q+7/\i= .int .i64 ((8*k:Nat):Int)/\wr.ownsRow w 5 1 u k (bZ .u8 ((List.range k).map (Ic bs)))/\Below w w wr) (fun _ i _=>q+8-(intOf i).toNat)
 case atStart=>exact⟨0,nB,rfl,AE _ _ _ _,Ak _ _⟩
 case round=>
  obtain⟨k,hk,rfl,J,E⟩:=hrel;have aa:=E.size;have c0:=(E.cell (p:=⟨g,0,none⟩) af).trans hg;obtain⟨va,vc,rfl⟩:=aZ J;have av:k<=800000:=nB
  generalize hi:8*k=i at *;have HI:=hid hi;clear hi;by_cases ar:i<q
  ·go_wp2_with fail
   go_loop [5,6] (fun a j=>∃p x:Nat,i<=p/\p<=i+8/\j= .int .i64 (p:Nat)/\a= .int .i64 x/\Hid (x=AN bs i (p-i))/\x<256) (fun _ j=>i+8-(intOf j).toNat)
   case atStart=>exact⟨i,0,nB,nB,rfl,rfl,by show 0=_;rw[Gl];rfl,nB⟩
   case round=>
    obtain⟨p,x,au,an,rfl,rfl,hx,am⟩:=hrel;by_cases al:p<i+8
    ·have h:AN bs i (p+1-i)=2*x+bit bs p:=(by rw[show p+1-i=(p-i)+1 by omega,AN,<-hx.out,show i+(p-i)=p by omega]);have G:=GS bs i (p+1-i);have N:2 ^ (p+1-i)<=2 ^ 8:=Cf nB nB;rw[h]at G;by_cases ag:p<q
     ·obtain⟨b,aq,y,rfl,aw,hy,d0⟩:=Dg (ha.below E) (by rw[UT,HQ.out]) ag;have U:bit bs p=y:=(by rw[<-Ye,Aq,hy];rfl);rw[U]at h G;have HS:=hid h;have x0:(0:Int)<=(p:Int):=nB;have x1:(p:Int)<(q:Int):=nB;have hb:2*x+y<256:=nB;clear hx h G N hy U;go_wp2_with fail
      go_round
      case measure=>exact ld
      case rel=>go_light;exact⟨p+1,2*x+y,nB,nB,lj,lj,HS.out.symm,hb⟩
     ·rw[Kf (by rw[HQ.out];omega),Cw]at h G;have HS:=hid h;have hb:2*x<256:=nB;clear hx h G N;go_wp2_with fail
      go_round
      case measure=>exact ld
      case rel=>go_light;exact⟨p+1,2*x,nB,nB,lj,lj,HS.out.symm,hb⟩
    ·obtain rfl:p=i+8:=by omega
     have Y:x=Ic bs k:=(by rw[hx.out,IE,<-HI.out,XJ]);have ai:=hid Y;clear hx Y;go_wp2_with(at_builtin;refine fZ rfl (.tmp 42) (.tmp 45) 28 rfl w 5 j0 _ 1 1 underlying28 ah ac Z ab rfl ji _ _ _ nC (J.alloc _) _ 1 1 [.int .u8 (x:Nat)] nC (Src.of_blk (Blk.made _ _ _) 1 1 1 rfl) na qn nB p5 ?_;intro v3 w3 M ae aj);go_roundw
     case measure=>exact ld
     case rel=>go_light;have hi:=HI.out;refine⟨k+1,nB,by rw[<-hi];go_num,?_,(mZ aa E).grown ae p5 (fun y hy=>(Ai J y hy).1)⟩;rw[Hi,DY,CE,Gm,U4,<-ai.out];exact M
  ·have L:(bytesOf bs).length=k:=(by rw[bytesOf_length,HQ.out];have:=HI.out;omega);have Q:bytesOf bs=(List.range k).map (Ic bs):=(by unfold bytesOf;congr 2;rw[<-L,bytesOf_length]);have HK:=hid L;have HB:=hid Q;clear L Q;go_wp2_with fail;go_ret;refine⟨_,rfl,?_,E⟩;rw[HK.out,HB.out];exact J
end Huff
namespace Huff
open Go.RowKit Mem Canon Own
theorem MA(K:Nat->Prop)(w:World)(lo B:Nat)(vl vc:Value)(ls:List Nat)(g base:Nat)(v:Value)(bs:List Bool)(s:Int)
 (Z:okB ls=true)(hC:RCo w lo B vl vc ls)(hK:∀k,lo<=k->k<B->K k)(h0:Gh ls s≠0)(ar:bs.length<=5000000)(hW:RW K w base g bs v):
 Calls prog 208 #[.agg #[vl,vc], .pointer (some ⟨g,0,none⟩),s] w
  fun e w'=>e= .returned (.int .i64 0)/\∃v',RW K w' base g (bs++word ls s.toNat) v'/\Kept K w w':=by
 obtain⟨aq,af,_⟩:=ok_parts Z;obtain⟨A,c,rfl,hr⟩:=hC.lens;obtain⟨A',c',rfl,al⟩:=hC.codes;obtain⟨m,x,rfl,hx,ae⟩:=ZT h0;have ab:=af x (AY hx);have hm:=(BS.1 hx).1;have Q:word ls m=msb (code ls m) x x:=by unfold word;simp[List.getD_eq_getElem?_getD,hx]
 have aa:=Pe Z hx ae;have ac:code ls m<65536:=Fi aa (by have:2 ^ x<=2 ^ 15:=Cf nB ab;omega);have ag:EH ls m=code ls m:=Nat.mod_eq_of_lt ac;obtain⟨b,i,rfl,Y,L⟩:=hr nB;obtain⟨b',h,rfl,N,G⟩:=al nB;have KB:=hid (hK b Y.1 Y.2);have ai:=hid (hK b' N.1 N.2);have an:=hW.kK b KB.out;have aj:=hW.kK b' ai.out;obtain⟨w0,U⟩:=jc (w.alloc (.cells #[.slice (some ⟨b,i,none⟩) ls.length c, .slice (some ⟨b',h,none⟩) ls.length c'] 272));have E:Below w w w0:=by rw[U];exact cZ (Ak _ _)
 have blk:Blk w0 w 272 #[.slice (some ⟨b,i,none⟩) ls.length c, .slice (some ⟨b',h,none⟩) ls.length c']:=by rw[U];exact Blk.made _ _ _
 have d0:w0.cell? ⟨b,i+m,none⟩=some (.int .u8 (x:Nat)):=by have:=L m 0 hm nB;rw[E.cell an];simpa[kZ,List.getD_eq_getElem?_getD,hx]using this
 have d1:w0.cell? ⟨b',h+m,none⟩=some (.int .u16 (code ls m:Nat)):=by have:=G m 0 hm nB;rw[E.cell aj];simpa[ag]using this
 have p0:=blk.iy 0;have p1:=blk.iy 1;have au:=blk.lt
 have j:RW (fun y=>K y∨y=w.heap.size) w0 base g bs v:=hW.step E (fun y hy=>by
  rcases hy with hy|hy
  ·exact .inl hy
  ·exact .inr ⟨nB,nB⟩)
 have C3:=IZ (fun y=>K y∨y=w.heap.size) w0.drew g base v bs (code ls m) x aa nB nB ⟨j.blk.drew,j.own,j.ne,j.base,j.kg,j.kv,j.kK⟩;rw[<-Q]at C3;rw[Br];have ak:=hid (Kept.of_below E hW.kK);generalize code ls m=cd at *;generalize ls.length=n at *;have hu:IntKind.u64.wrap (cd:Int)=(cd:Int):=n4
 have hv:IntKind.i64.wrap (x:Int)=(x:Int):=Az _ nB;rw[<-hu,<-hv]at C3;have C3:=hid C3;have x0:(0:Int)<=(m:Int):=nB
 have x1:(m:Int)<(n:Int):=nB
 have x2:0<x:=nB
 clear hu hv L G hx Q aa ag hW j E hr al hC h0 af Z hK Y N ae;subst U;go_enter func208,ntmps208;go_upto_region 3 with fail;generalize w.alloc (.cells #[.slice (some ⟨b,i,none⟩) n c, .slice (some ⟨b',h,none⟩) n c'] 272)=w0 at *;clear blk;go_region_held3 (fun wx=>wx.cell? ⟨w,0,none⟩=some (.slice (some ⟨b,i,none⟩) n c)/\wx.cell? ⟨w,1,none⟩=some (.slice (some ⟨b',h,none⟩) n c')/\wx.cell? ⟨b,i+m,none⟩=some (.int .u8 x)/\wx.cell? ⟨b',h+m,none⟩=some (.int .u16 cd)) (first|exact⟨p0,p1,d0,d1⟩|exact⟨k0,k1,k2,k3⟩) (first|(go_at_call 134;(with_reducible refine C3.out.mono ?_);rintro e w' ⟨rfl,v2,ah,J⟩;have k0:w'.cell? ⟨w,0,none⟩=some (.slice (some ⟨b,i,none⟩) n c):=(World.cell?_of_block (a:=⟨w,0,none⟩) (J.block _ (.inr rfl))).trans p0;have k1:w'.cell? ⟨w,1,none⟩=some (.slice (some ⟨b',h,none⟩) n c'):=(World.cell?_of_block (a:=⟨w,1,none⟩) (J.block _ (.inr rfl))).trans p1;have k2:w'.cell? ⟨b,i+m,none⟩=some (.int .u8 x):=(World.cell?_of_block (a:=⟨b,i+m,none⟩) (J.block b (.inl KB.out))).trans d0;have k3:w'.cell? ⟨b',h+m,none⟩=some (.int .u16 cd):=(World.cell?_of_block (a:=⟨b',h+m,none⟩) (J.block b' (.inl ai.out))).trans d1));have am:=hid ah;have M:=hid J;clear ah J k0 k1 k2 k3 C3;go_wp2_with fail;go_ret;exact⟨rfl,v2,am.out.weak (fun y hy=> .inl hy),ak.out.trans ⟨M.out.os,M.out.tape,M.out.output,M.out.size,fun y hy=>M.out.block y (.inl hy)⟩⟩
end Huff
namespace Huff
open Go.RowKit Mem Canon Own
def Rd(w:World)(lo g:Nat)(bs:List Bool)(at_:Nat):Prop:=
 ∃ (A:Option Addr) (n c:Nat) (ls:List Nat),Blk w g 415 #[.slice A n c, .int .i64 ((8*n:Nat):Int),at_]/\RowIn w lo g A n 1 (kZ .u8 ls)/\ls.length=n/\(∀x∈ls,x<=255)/\bs=Bv ls/\at_<=8*n/\n<=100000
theorem Rd.keep{at_:Nat}{bs:List Bool}(h:Rd w lo g bs at_)(hk:∀b,lo<=b->b<=g->w'.heap[b]? =w.heap[b]?)(i:lo<=g):Rd w' lo g bs at_:=by obtain⟨A,n,c,ls,h1,h2,h3⟩:=h;exact⟨A,n,c,ls,(hk g i (Am _)).trans h1,h2.keep (fun p ha hb=>World.cell?_of_block (hk p.block ha nB)),h3⟩
theorem Rd.drew{at_:Nat}{bs:List Bool}(h:Rd w lo g bs at_):Rd w.drew lo g bs at_:=h
theorem Rd.drewN{at_:Nat}{bs:List Bool}(h:Rd w lo g bs at_)(q:Nat):Rd (w.drewN q) lo g bs at_:=h
theorem Rd.moved{at_:Nat}{bs:List Bool}(h:Rd w lo g bs at_)(hk:at_+k<=bs.length):Rd (w.setCell ⟨g,2,none⟩ (.int .i64 ((at_:Int)+(k:Int)))) lo g bs (at_+k):=by
 obtain⟨A,n,c,ls,h1,h2,h3,h4,h5,h6,h7⟩:=h;refine⟨A,n,c,ls,?_,h2.keep (fun p _ hb=>World.cell?_of_block (Be w _ _ _ (show p.block≠g by omega))),h3,h4,h5,?_,h7⟩
 ·have h:=h1.set 2 (.int .i64 ((at_:Int)+(k:Int)));simpa using h
 ·rw[h5,EY]at hk;omega
theorem Rd.lt{at_:Nat}{bs:List Bool}(h:Rd w lo g bs at_):g<w.heap.size:=by obtain⟨A,n,c,ls,h1,_⟩:=h;exact h1.lt
theorem XA(y:Nat)(hy:y<18446744073709551616):bits .and .u64 (y:Int) 1=((y % 2:Nat):Int):=by have h:=bits_and_u64_nat y 1 hy nB;rw[Nat.and_one_is_mod]at h;exact h
theorem Xi(x y:Nat)(hx:x<9223372036854775808)(hy:y<=1):bits .or .u64 ((2*x:Nat):Int) (y:Int)=((2*x+y:Nat):Int):=by rw[bits_or_u64_nat _ _ nB nB];congr 1;have h:=Nat.two_pow_add_eq_or_of_lt (b:=y) (i:=1) nB x;rw[show 2 ^ 1=2 from rfl]at h;exact h.symm
theorem Sd(w:World)(g B:Nat)(A:Option Addr)(n c i:Nat)(ls:List Nat)(hn:ls.length=n)(hN:n<=100000)(h8:∀x∈ls,x<=255)(hi:i<8*n)(hg:w.cell? ⟨g,0,none⟩=some (.slice A n c))(ha:Row w B A n 1 (kZ .u8 ls)):
 Calls prog 328 #[.pointer (some ⟨g,0,none⟩), .int .i64 (i:Nat)] w fun e w'=>e= .returned (.int .u64 (bit (Bv ls) i:Nat))/\w=w':=by
 have hv:=Nh (ls:=ls) (i:=i) nB;obtain⟨b,G,x,rfl,hb,hx,d0⟩:=Dg ha hn (show i / 8<n by omega);have j:=h8 x (AY hx);have h:ls.getD (i / 8) 0=x:=by simp[List.getD_eq_getElem?_getD,hx]
 rw[h]at hv;rw[hv];have x0:(0:Int)<=(i:Int) / 8:=nB
 have x1:(i:Int) / 8<(n:Int):=nB
 have x2:(0:Int)<=7-(i:Int) % 8:=nB
 clear hv h hx h8 hn ha;go_enter func328,ntmps328;go_wp2_with fail;go_ret;refine⟨?_,rfl⟩;have e:((x:Int) / 2 ^ (7-i % 8))=((x / 2 ^ (7-i % 8):Nat):Int):=pR
 have E:=ID x (2 ^ (7-i % 8));show Ending.returned (.int .u64 (bits .and .u64 (IntKind.u64.wrap ((x:Int) / 2 ^ (7-i % 8))) 1))=_;rw[e];generalize x / 2 ^ (7-i % 8)=y at *;rw[show IntKind.u64.wrap (y:Int)=(y:Int) by rw[Bj];omega,XA y nB]
theorem number_any(w:World)(g B:Nat)(A:Option Addr)(n c at_ m:Nat)(ls:List Nat)(hn:ls.length=n)(hN:n<=100000)(h8:∀x∈ls,x<=255)(N:at_<=8*n)(hm:m<=64)(hg:w.cell? ⟨g,0,none⟩=some (.slice A n c))(Y:w.cell? ⟨g,1,none⟩=some (.int .i64 ((8*n:Nat):Int)))(ha:Row w B A n 1 (kZ .u8 ls)):
 Calls prog 329 #[.pointer (some ⟨g,0,none⟩), .int .i64 (at_:Nat), .int .i64 (m:Nat)] w fun e w'=>e= .returned (.int .u64 (AN (Bv ls) at_ m:Nat))/\w=w':=by
 have C:=hid (fun i h=>Sd w g B A n c i ls hn hN h8 h hg ha);have HL:Hid ((Bv ls).length=8*n):=by show _=_;rw[EY,hn]
 generalize Bv ls=bs at *;generalize hz:8*n=z at *;have aa:z<=800000:=nB
 clear hn h8 ha hz;go_enter func329,ntmps329;go_wp2_with fail;go_loopw [7,8] (fun u j wr=>∃p x:Nat,at_<=p/\p<=at_+m/\j= .int .i64 (p:Nat)/\u= .int .u64 x/\Hid (x=AN bs at_ (p-at_))/\w=wr) (fun _ j _=>at_+m-(intOf j).toNat)
 case atStart=>exact⟨at_,0,nB,nB,rfl,rfl,by show 0=_;rw[Gl];rfl,rfl⟩
 case round=>
  obtain⟨p,x,Z,Q,rfl,rfl,hx,rfl⟩:=hrel;by_cases U:p<at_+m
  ·have G:=GS bs at_ (p-at_);rw[<-hx.out]at G;have J:x<9223372036854775808:=Fi G (by have:2 ^ (p-at_)<=2 ^ 63:=Cf nB nB;omega);have E:AN bs at_ (p+1-at_)=2*x+bit bs p:=(by rw[show p+1-at_=(p-at_)+1 by omega,AN,<-hx.out,show at_+(p-at_)=p by omega]);by_cases M:p<z
   ·have L:=EP bs p;have C2:=hid (C.out p M);generalize bit bs p=y at *;have HS:=hid E;clear E hx G;go_wp2_with fail;refine C2.out.mono ?_;rintro e w1 ⟨rfl,rfl⟩;go_wp2_with fail;go_roundw
    case measure=>exact ld
    case rel=>go_light;have e:bits .or .u64 ((x:Int)*2) (y:Int)=((2*x+y:Nat):Int):=(by rw[<-Xi x y J L];congr 1;omega);exact⟨p+1,2*x+y,nB,nB,lj,by rw[e],HS.out.symm,trivial⟩
   ·rw[Kf (by rw[HL.out];omega)]at E;have HS:=hid E;clear E hx G;go_wp2_with fail;go_roundw
    case measure=>exact ld
    case rel=>go_light;exact⟨p+1,2*x,nB,nB,lj,lj,HS.out.symm,trivial⟩
  ·obtain rfl:p=at_+m:=by omega
   go_wp2_with fail;go_ret;exact⟨by rw[hx.out,IE];rfl,rfl⟩
theorem left_any(w:World)(lo g:Nat)(bs:List Bool)(at_:Nat)(hR:Rd w lo g bs at_):
 Calls prog 297 #[.pointer (some ⟨g,0,none⟩)] w fun e w'=>e= .returned (.int .i64 ((bs.length-at_:Nat):Int))/\∃q,w'=w.drewN q:=by
 obtain⟨A,n,c,ls,h1,h2,h3,h4,h5,h6,h7⟩:=hR;have hl:bs.length=8*n:=by rw[h5,EY,h3]
 rw[hl];have c1:=h1.iy 1;have c2:=h1.iy 2;have hz:8*n<=800000:=nB
 generalize 8*n=z at *;have s1:IntKind.i64.wrap ((z:Int)-(at_:Int))=((z-at_:Nat):Int):=nX
 clear h1 h2 h3 h4 h5 hl;go_enter func297,ntmps297;go_wp2_with fail;go_quiet (fail);go_wp2_with fail;go_ret;exact⟨rfl,_,rfl⟩
theorem ZQ(w:World)(lo g:Nat)(bs:List Bool)(at_ k:Nat)(hk:k<=100000)(hR:Rd w lo g bs at_):
 Calls prog 365 #[.pointer (some ⟨g,0,none⟩), .int .i64 (k:Nat)] w fun e w'=>e= .returned (.int .i64 (if at_+k<=bs.length then 0 else 1))/\Rd w' lo g bs (if at_+k<=bs.length then at_+k else at_)/\Kept (fun x=>x≠g) w w':=by
 have C:=hid (left_any w lo g bs at_ hR);have HR:=hid hR;have j:at_<=bs.length/\bs.length<=800000:=nj
 have c2:w.cell? ⟨g,2,none⟩=some (.int .i64 at_):=by obtain⟨A,n,c,ls,h1,_⟩:=hR;exact h1.cell 2
 have f2:w.frozen? ⟨g,2,none⟩=false:=by obtain⟨A,n,c,ls,h1,_⟩:=hR;exact h1.frozen 2
 obtain⟨z,hz⟩:=jc bs.length;rw[<-hz]at C j ⊢;have HZ:=hid hz;obtain⟨G,E⟩:=j;clear hR hz;by_cases i:at_+k<=z
 ·rw[Ag i,Ag i];have x1:(k:Int)<=((z-at_:Nat):Int):=by omega
  go_enter func365,ntmps365;go_wp2_with fail;refine C.out.mono ?_;rintro e w1 ⟨rfl,q,rfl⟩;go_wp2_with fail;go_ret;exact⟨rfl,(HR.out.drewN q).moved (by rw[<-HZ.out];exact i),Kept.set (p:=⟨g,2,none⟩) ((Kept.refl _ w).drewN q) (fun h=>h rfl) _⟩
 ·rw[Ae i,Ae i];have x1:¬(k:Int)<=((z-at_:Nat):Int):=by omega
  go_enter func365,ntmps365;go_wp2_with fail;refine C.out.mono ?_;rintro e w1 ⟨rfl,q,rfl⟩;go_wp2_with fail;go_ret;exact⟨rfl,HR.out.drewN q,(Kept.refl _ w).drewN q⟩
theorem Zw(w:World)(lo g:Nat)(bs:List Bool)(at_ m:Nat)(hm:m<=64)(hR:Rd w lo g bs at_):
 Calls prog 363 #[.pointer (some ⟨g,0,none⟩), .int .i64 (m:Nat)] w fun e w'=>e= .returned (.tuple #[.int .u64 (AN bs at_ m:Nat), .int .i64 ((min m (bs.length-at_):Nat):Int)])/\∃q,w'=w.drewN q:=by
 have C1:=hid (fun q=>left_any (w.drewN q) lo g bs at_ (hR.drewN q));obtain⟨A,n,c,ls,h1,h2,h3,h4,h5,h6,h7⟩:=hR;have c0:=h1.iy 0;have c1:=h1.iy 1;have c2:=h1.iy 2;have C2:=hid (fun q=>(number_any (w.drewN q) g g A n c at_ m ls h3 h7 h4 h6 hm c0 c1 (h2.row.drewN q)).mono (fun e w' h=>And.intro h.1 h.2.symm));rw[<-h5]at C2;generalize bs.length-at_=d at *;generalize AN bs at_ m=y at *;clear h1 h2 h3 h4 h5 h6 c0 c1;go_enter func363,ntmps363;go_wp2_with fail;go_quiet (first|(go_at_call 329;exact Dn (C2.out _))|(go_at_call 297;exact Calls.quiet_of (C1.out _)));go_wp2_with fail
 all_goals
  go_ret2;refine⟨?_,_,rfl⟩
  first
  |(rw[show min m d=d by omega];rfl)
  |(rw[show min m d=m by omega];rfl)
theorem Rd.cellAt{at_:Nat}{bs:List Bool}(h:Rd w lo g bs at_):w.cell? ⟨g,2,none⟩=some (.int .i64 at_):=by obtain⟨A,n,c,ls,h1,_⟩:=h;exact h1.cell 2
theorem NK(w:World)(lo g:Nat)(bs:List Bool)(at_ m:Nat)(hm:m<=64)(hR:Rd w lo g bs at_)(q:Nat):
 Calls prog 329 #[.pointer (some ⟨g,0,none⟩), .int .i64 (at_:Nat), .int .i64 (m:Nat)] (w.drewN q) fun e w'=>e= .returned (.int .u64 (AN bs at_ m:Nat))/\w'=w.drewN q:=by
 obtain⟨A,n,c,ls,h1,h2,h3,h4,h5,h6,h7⟩:=hR;have c0:=h1.cell 0;have c1:=h1.cell 1;have h:=(number_any (w.drewN q) g g A n c at_ m ls h3 h7 h4 h6 hm c0 c1 (h2.row.drewN q)).mono (fun e w' h=>And.intro h.1 h.2.symm);rw[<-h5]at h;exact h
def FZ(bs:List Bool)(at_:Nat):Int:=if bs.length-at_≥8∨AN bs at_ (bs.length-at_)≠0 then 2 else 0
theorem WV(w:World)(lo g:Nat)(bs:List Bool)(at_:Nat)(hR:Rd w lo g bs at_):
 Calls prog 332 #[.pointer (some ⟨g,0,none⟩)] w fun e w'=>e= .returned (.int .i64 (FZ bs at_))/\∃q,w'=w.drewN q:=by
 have C1:=hid (left_any w lo g bs at_ hR);have HR:=hid hR;clear hR;by_cases h8:bs.length-at_<8
 ·by_cases h0:AN bs at_ (bs.length-at_)=0
  ·have hE:FZ bs at_=0:=(by unfold FZ;rw[Ae nB]);rw[hE];clear hE;have H0:=hid h0;clear h0;go_enter func332,ntmps332;go_wp2_with fail;refine C1.out.mono ?_;rintro e w1 ⟨rfl,q1,h⟩;have i:Rd w1 lo g bs at_:=pd;have c2:=i.cellAt;have HQ:=hid h;clear h;have C2:=hid (NK w1 lo g bs at_ (bs.length-at_) nB i);rw[H0.out]at C2;clear i;generalize bs.length-at_=d at *;have j:=jb ((8:Int)<=d);go_wp2_with fail;go_quiet (first|(go_at_call 329;exact Dn (C2.out _)));go_wp2_with fail;go_ret;refine⟨rfl,?_⟩;rw[HQ.out];exact⟨_,EW _ _ _⟩
  ·have hE:FZ bs at_=2:=(by unfold FZ;rw[Ag (.inr h0)]);rw[hE];clear hE;go_enter func332,ntmps332;go_wp2_with fail;refine C1.out.mono ?_;rintro e w1 ⟨rfl,q1,h⟩;have i:Rd w1 lo g bs at_:=pd;have c2:=i.cellAt;have HQ:=hid h;clear h;have C2:=hid (NK w1 lo g bs at_ (bs.length-at_) nB i);clear i;generalize bs.length-at_=d at *;generalize AN bs at_ d=y at *;have E:((y:Int) != 0)=true:=bne_iff_ne.mpr nB;clear h0;have j:=jb ((8:Int)<=d);go_wp2_with fail;go_quiet (first|(go_at_call 329;exact Dn (C2.out _)));go_wp2_with fail;go_ret;refine⟨rfl,?_⟩;rw[HQ.out];exact⟨_,EW _ _ _⟩
 ·have hE:FZ bs at_=2:=by unfold FZ;rw[Ag (.inl nB)]
  rw[hE];clear hE;go_enter func332,ntmps332;go_wp2_with fail;refine C1.out.mono ?_;rintro e w1 ⟨rfl,q1,h⟩;have i:Rd w1 lo g bs at_:=pd
  have c2:=i.cellAt;have HQ:=hid h;clear h;clear i;generalize bs.length-at_=d at *;have j:=ja ((8:Int)<=d)
  go_wp2_with fail;go_quiet (fail);go_wp2_with fail;go_ret;refine⟨rfl,?_⟩;rw[HQ.out];exact⟨_,EW _ _ _⟩
theorem SD(w:World)(A:Option Addr)(n c:Nat)(ls:List Nat)(hn:ls.length=n)(L:n<=100000)(h8:∀x∈ls,x<=255)(J:A=none->n=0/\c=0)(ha:Row w w A n 1 (kZ .u8 ls)):
 Calls prog 294 #[.slice A n c] w fun e w'=>∃g,e= .returned (.pointer (some ⟨g,0,none⟩))/\Rd w' w g (Bv ls) 0/\w.heap.size<=g/\Below w w w':=by
 have C:=hid (IM w A n c ls hn L J ha);have HN:=hid hn;have H8:=hid h8;clear hn h8 J ha;go_enter func294,ntmps294;go_wp2_with fail;refine C.out.mono ?_;rintro e w1 ⟨v,rfl,E,M⟩;obtain⟨A1,c1,rfl⟩:=aZ E;have z1:=M.size;have G:=RowIn.of_own (f:=kZ .u8 ls) (s:=1) E rfl (fun i j hi hj=>by have e0:j=0:=nB;subst e0;exact numL_get (by rw[HN.out];exact hi));have N:=hid G;clear E G C;go_wp2_with fail;go_ret;refine⟨_,rfl,⟨A1,n,c1,ls,?_,?_,HN.out,H8.out,rfl,nB,L⟩,z1,mZ z1 M⟩
 ·have h:=Blk.made w1 415 #[.slice A1 n c1, .int .i64 ((8*n:Nat):Int), .int .i64 ((0:Nat):Int)];simpa using h
 ·exact N.out.keep (fun p _ h=>World.cell?_alloc_lt (w:=w1) (a:=p) (o:=_) h)
end Huff
namespace Huff
open Go.RowKit Mem Canon Own
theorem MJ(h:0<cn ls l):Fl ls ls.length l=fst ls l:=by unfold Fl;rw[List.take_length,Ae nB]
theorem S7(h:cn ls l=0):Fl ls ls.length l=0:=by unfold Fl;rw[List.take_length,Ag h]
theorem Qd(i:okB ls=true)(l:Nat)(hl:l<=15):Fl ls ls.length l+cn ls l<=65536:=by
 obtain⟨h1,h2,h3⟩:=ok_parts i;have h4:=Jm ls l;by_cases h:0<cn ls l
 ·rw[MJ h];have h5:=Ml ls l hl;have h6:=KK ls (show l+1<=16 by omega);have h7:(fst ls l+cn ls l)*1<=(fst ls l+cn ls l)*2 ^ (15-l):=Nat.mul_le_mul_left _ (Gk _);omega
 ·rw[S7 nB];omega
theorem eT(w:World)(lo B g:Nat)(ls:List Nat)(y l k s:Nat)(j:okB ls=true)(hC:Coder w lo B g ls)(h0:0<l)(hl:l<=15)(hk:k<cn ls l)(hy:y=fst ls l+k)(hs:(symsOf ls l)[k]? =some s):
 Calls prog 364 #[.pointer (some ⟨g,0,none⟩), .int .u64 (y:Nat), .int .i64 (l:Nat)] w fun e w'=>e= .returned (.tuple #[s,true])/\w=w':=by
 have hF:=Qd j l hl;have c1:=hC.first l nB;have c2:=hC.many l nB;obtain⟨AS,cS,c3,i⟩:=hC.syms l nB;obtain⟨b,G,rfl,_,h⟩:=i nB;have c4:=h k 0 hk nB;have E:Fs ls l=symsOf ls l:=by unfold Fs;rw[Ae nB]
 rw[E]at c4;have c5:w.cell? ⟨b,G+k,none⟩=some (.int .i64 s):=by simpa[kZ,List.getD_eq_getElem?_getD,hs]using c4
 rw[MJ nB]at c1 hF;generalize fst ls l=F at *;generalize cn ls l=M at *;have J:s<=300:=by have h1:=(VM ls k s hs).1;have h2:=(BS.1 h1).1;have h3:=(ok_parts j).1;omega
 have x0:(0:Int)<=(l:Int):=nB
 have x1:(l:Int)<16:=nB
 have x2:(0:Int)<=(k:Int):=nB
 have x3:(k:Int)<(M:Int):=nB
 have x4:¬(k:Int)<0:=nB
 have s1:IntKind.i64.wrap ((y:Int)-(F:Int))=(k:Int):=nX
 have s2:IntKind.i64.wrap (y:Int)=(y:Int):=Az _ nB;clear hF i h c4 E hs j hC hy;go_enter func364,ntmps364;go_wp2_with fail;go_ret2;exact⟨rfl,rfl⟩
theorem dT(w:World)(lo B g:Nat)(ls:List Nat)(y l:Nat)(j:okB ls=true)(hC:Coder w lo B g ls)(h0:0<l)(hl:l<=15)(J:y<=65535)(hy:y<fst ls l∨fst ls l+cn ls l<=y):
 Calls prog 364 #[.pointer (some ⟨g,0,none⟩), .int .u64 (y:Nat), .int .i64 (l:Nat)] w fun e w'=>e= .returned (.tuple #[jd,false])/\w=w':=by
 have hF:=Qd j l hl;have c1:=hC.first l nB;have c2:=hC.many l nB
 have i:(y:Int)-(Fl ls ls.length l:Nat)<0∨((cn ls l:Nat):Int)<=(y:Int)-(Fl ls ls.length l:Nat):=by
  by_cases h:0<cn ls l
  ·rw[MJ h];omega
  ·rw[S7 nB];omega
 generalize Fl ls ls.length l=F at *;generalize cn ls l=M at *;have x0:(0:Int)<=(l:Int):=nB
 have x1:(l:Int)<16:=nB
 have s2:IntKind.i64.wrap (y:Int)=(y:Int):=Az _ nB;obtain⟨z,hz⟩:∃z:Int,z=(y:Int)-(F:Int):=⟨_,rfl⟩;have s1:IntKind.i64.wrap ((y:Int)-(F:Int))=z:=by rw[Az _ nB,hz]
 rw[<-hz]at i;clear j hC hy hF hz;by_cases E:z<0
 ·clear i;go_enter func364,ntmps364;go_wp2_with fail;go_ret2;exact⟨rfl,rfl⟩
 ·have G:(M:Int)<=z:=by omega
  clear i;go_enter func364,ntmps364;go_wp2_with fail;go_ret2;exact⟨rfl,rfl⟩
def meets(ls:List Nat)(y l k:Nat):Prop:=0<cn ls k/\y*2 ^ (k-l)<fst ls k+cn ls k/\fst ls k<y*2 ^ (k-l)+2 ^ (k-l)
instance (ls:List Nat) (y l k:Nat):Decidable (meets ls y l k):=by unfold meets;infer_instance
def IU(ls:List Nat)(y l:Nat):Bool:=(List.range 16).any fun k=>decide (l<k/\meets ls y l k)
theorem SP(h1:l<k)(h2:k<=15)(h3:meets ls y l k):IU ls y l=true:=by unfold IU;rw[List.any_eq_true];exact⟨k,FA.2 nB,by simpa using ⟨h1,h3⟩⟩
theorem PE(h:∀k,l<k->k<16->¬meets ls y l k):IU ls y l=false:=by unfold IU;rw[List.any_eq_false];intro k hk;have:=FA.1 hk;simp only[decide_eq_true_eq,not_and];exact fun h1=>h k h1 this
theorem YP(h:∀x∈ls,x<=15)(X there:Nat):IU ls (X / 2 ^ (15-there)) there=(List.range ls.length).any (JN ls X there):=by
 cases hb:(List.range ls.length).any (JN ls X there)
 ·refine PE fun k h1 h2 h3=> ?_;obtain⟨s,hs,hc⟩:=bE h1 h3.1 h3.2.1 h3.2.2;rw[List.any_eq_false]at hb;have:=hb s (FA.2 (BS.1 hs).1);exact this (Vv.2 ⟨k,hs,h1,hc.symm⟩)
 ·rw[List.any_eq_true]at hb;obtain⟨s,_,hs⟩:=hb;obtain⟨k,hk,h1,hc⟩:=Vv.1 hs;exact SP h1 (h k (AY hk)) (aL h1 hk hc.symm)
theorem Ov(n:Nat)(h:n<=65536):wrap64 (n:Int)=(n:Int):=JH _ nB
theorem Td(d:Nat):((2:Int) ^ d)=((2 ^ d:Nat):Int):=pR
theorem Y7(y d:Nat)(h:y*2 ^ d<2 ^ 15):wrap64 ((y:Int)*2 ^ d)=((y*2 ^ d:Nat):Int):=by rw[Td,<-Int.natCast_mul];exact Ov _ nB
theorem WB(P d:Nat)(hP:P<2 ^ 15)(h:2 ^ d<=2 ^ 15):wrap64 ((P:Int)+wrap64 (2 ^ d))=(P:Int)+((2 ^ d:Nat):Int):=by rw[Td,Ov _ nB,<-Int.natCast_add];exact Ov _ nB
theorem X8(w:World)(lo B g:Nat)(ls:List Nat)(y l:Nat)(af:okB ls=true)(hC:Coder w lo B g ls)(hl:l<15)(hy:y<2 ^ l):
 Calls prog 366 #[.pointer (some ⟨g,0,none⟩), .int .u64 (y:Nat), .int .i64 (l:Nat)] w fun e w'=>e= .returned (.bool (IU ls y l))/\∃q,w'=w.drewN q:=by
 have HC:=hid hC;have aj:=hid af;have HY:=hid hy;have al:y<=32768:=by have:2 ^ l<=2 ^ 15:=Cf nB nB;omega
 clear af hC hy;go_enter func366,ntmps366;go_wp2_with fail;go_loopw [7] (fun i wr=>∃k:Nat,l<k/\k<=16/\i= .int .i64 k/\Hid (∀j,l<j->j<k->¬meets ls y l j)/\Hid (∃q,wr=w.drewN q)) (fun i _=>16-(intOf i).toNat)
 case atStart=>exact⟨l+1,nB,nB,lj,(fun j h1 h2=>by omega),⟨0,rfl⟩⟩
 case round=>
  obtain⟨k,ah,ak,rfl,J,N⟩:=hrel;by_cases ae:k<16
  ·have ac:Coder wr lo B g ls:=(by obtain⟨q,hq⟩:=N.out;rw[hq];exact HC.out.keep (fun _ _ _=>rfl));have c1:=ac.first k ae;have c2:=ac.many k ae;have hF:=Qd aj.out k nB;have ab:2 ^ (k-l)<=2 ^ 15:=Cf nB nB;have aa:y*2 ^ (k-l)<2 ^ 15:=by have h1:y*2 ^ (k-l)<2 ^ l*2 ^ (k-l):=Nat.mul_lt_mul_of_pos_right HY.out (Gk _);rw[<-Nat.pow_add,show l+(k-l)=k by omega]at h1;have h2:2 ^ k<=2 ^ 15:=Cf nB nB;omega
   have Z:meets ls y l k↔0<cn ls k/\y*2 ^ (k-l)<Fl ls ls.length k+cn ls k/\Fl ls ls.length k<y*2 ^ (k-l)+2 ^ (k-l):=by
    unfold meets;by_cases h:0<cn ls k
    ·rw[MJ h]
    ·constructor
     ·intro h1;exact absurd h1.1 h
     ·intro h1;exact absurd h1.1 h
   have x0:(0:Int)<=(k:Int):=nB;have x1:(k:Int)<16:=nB;have x2:(0:Int)<=(k:Int)-(l:Int):=nB;go_upto_region 5 with fail;obtain⟨D,hD⟩:=jc (2 ^ (k-l));obtain⟨P,hP⟩:=jc (y*D);rw[<-hD]at ab aa Z;rw[<-hP]at aa Z;generalize Fl ls ls.length k=F at *;generalize cn ls k=M at *;have e:=Y7 y (k-l) (by rw[<-hD,<-hP];exact aa);rw[<-hD,<-hP]at e;have e2:=WB P (k-l) aa (by rw[<-hD];exact ab);rw[<-hD]at e2;rw[e];clear e;have s1:IntKind.i64.wrap ((F:Int)+(M:Int))=(F:Int)+(M:Int):=Az _ nB;have L:=hid Z;clear hP ac Z;by_cases hM:0<M
   ·by_cases h1:P<F+M
    ·have g1:=ja ((P:Int)<(F:Int)+(M:Int));by_cases h2:F<P+D
     ·have g2:decide ((F:Int)<wrap64 ((P:Int)+wrap64 (2 ^ (k-l))))=true:=(by rw[e2];simp;omega);have HA:=hid (SP ah nB (L.out.2 ⟨hM,h1,h2⟩));clear hD e2 h1 h2;go_quiet (fail);go_wp2_with fail;go_ret;obtain⟨q,rfl⟩:=N.out;exact⟨by rw[HA.out];rfl,_,EW _ _ _⟩
     ·have g2:decide ((F:Int)<wrap64 ((P:Int)+wrap64 (2 ^ (k-l))))=false:=(by rw[e2];simp;omega);have G:¬meets ls y l k:=fun h=>h2 (L.out.1 h).2.2
      have E:∀j,l<j->j<k+1->¬meets ls y l j:=by
       intro j U ag;by_cases Y:j=k
       ·rw[Y];exact G
       ·exact J.out j U nB
      have Q:=hid E;clear hD e2 h1 h2 G E J L;go_quiet (fail);go_wp2_with fail;go_roundw
      case measure=>exact ld
      case rel=>exact kx
    ·have g1:=jb ((P:Int)<(F:Int)+(M:Int));have G:¬meets ls y l k:=fun h=>h1 (L.out.1 h).2.1;have h2:=0
     have E:∀j,l<j->j<k+1->¬meets ls y l j:=by
      intro j U ag;by_cases Y:j=k
      ·rw[Y];exact G
      ·exact J.out j U nB
     have Q:=hid E;clear hD e2 h1 h2 G E J L;go_quiet (fail);go_wp2_with fail;go_roundw
     case measure=>exact ld
     case rel=>exact kx
   ·have ai:M=0:=nB;subst ai;have G:¬meets ls y l k:=fun h=>hM (L.out.1 h).1;have h1:=0;have h2:=0
    have E:∀j,l<j->j<k+1->¬meets ls y l j:=by
     intro j U ag;by_cases Y:j=k
     ·rw[Y];exact G
     ·exact J.out j U nB
    have Q:=hid E;clear hD e2 h1 h2 G E J L;go_quiet (fail);go_wp2_with fail;go_roundw
    case measure=>exact ld
    case rel=>exact kx
  ·obtain rfl:k=16:=by omega
   have HA:=hid (PE J.out);go_wp2_with fail;go_ret;exact⟨by rw[HA.out];rfl,N.out⟩
end Huff
namespace Huff
open Go.RowKit Mem Canon Own
theorem Oz(X d:Nat):((X / 2 ^ d:Nat):Int)=(X:Int) / 2 ^ d:=pR
theorem Wi(bs:List Bool)(at_:Nat):head bs at_<32768:=GS bs at_ 15
theorem YK(X l:Nat)(hX:X<32768)(hl:l<=15):X / 2 ^ (15-l)<2 ^ l:=by
 apply Nat.div_lt_of_lt_mul
 rw[<-Nat.pow_add,show 15-l+l=15 by omega];omega
def MF(ls:List Nat)(bs:List Bool)(at_ lo g:Nat)(w:World)(e:Ending)(w':World):Prop:=
 e= .returned (.tuple #[.int .i64 (EG ls (head bs at_) (there bs at_)).1, .int .i64 (EG ls (head bs at_) (there bs at_)).2.1])/\
  Rd w' lo g bs (at_+(EG ls (head bs at_) (there bs at_)).2.2)/\Kept (fun x=>x≠g) w w'
theorem RY(w:World)(L cB gc lo g:Nat)(ls:List Nat)(bs:List Bool)(at_:Nat)(af:okB ls=true)(hC:Coder w L cB gc ls)(hR:Rd w lo g bs at_):
 Calls prog 353 #[.pointer (some ⟨gc,0,none⟩), .pointer (some ⟨g,0,none⟩)] w (MF ls bs at_ lo g w):=by
 have C1:=hid (Zw w lo g bs at_ 15 nB hR);have hX:=Wi bs at_;have am:there bs at_<=15:=by unfold there;omega
 have aq:there bs at_<=bs.length-at_:=by unfold there;omega
 have ar:at_<=bs.length:=by obtain⟨A,n,c,l,h1,h2,h3,h4,h5,h6,h7⟩:=hR;rw[h5,EY,h3];exact h6
 change Hid (Calls _ _ _ _ fun e w'=>e= .returned (.tuple #[.int .u64 (head bs at_:Nat), .int .i64 (there bs at_:Nat)])/\∃q,w'=w.drewN q)at C1
 unfold MF;generalize head bs at_=X at *;generalize there bs at_=th at *;have HC:=hid hC;have HR:=hid hR;have N:=hid af;clear hC hR af;go_enter func353,ntmps353;go_wp2_with fail;refine C1.out.mono ?_;rintro e w1 ⟨rfl,q1,Z⟩;have ab:Hid (Coder w1 L cB gc ls):=by show Coder w1 L cB gc ls;rw[Z];exact HC.out.keep (fun _ _ _=>rfl)
 have Y:Hid (Rd w1 lo g bs at_):=by show Rd w1 lo g bs at_;rw[Z];exact HR.out
 have U:Hid (Kept (fun x=>x≠g) w w1):=by show Kept _ w w1;rw[Z];exact(Kept.refl _ w).drewN q1
 clear Z C1;go_wp2_with fail;go_loopw [8] (fun i wr=>∃l:Nat,1<=l/\l<=th+1/\i= .int .i64 l/\Hid (∀s,hit ls X (l-1) s=false)/\w1=wr) (fun i _=>17-(intOf i).toNat)
 case atStart=>exact⟨1,nB,nB,rfl,cY ls X,rfl⟩
 case round=>
  obtain⟨l,av,au,rfl,J,rfl⟩:=hrel;by_cases ak:l<=th
  ·by_cases M:∃k,k<cn ls l/\X / 2 ^ (15-l)=fst ls l+k
   ·obtain⟨k,hk,hy⟩:=M;obtain⟨s,ae,ag,ac⟩:=lD nB hk hy;have C2:=eT w1 L cB gc ls _ l k s N.out ab.out nB nB hk hy ae;rw[Oz]at C2;have C2:=hid C2;have C3:=ZQ w1 lo g bs at_ l nB Y.out;rw[Ag nB,Ag nB]at C3;have C3:=hid C3;have HG:=hid (VG N.out ag (kG ak ac));clear hk hy ae ag ac J;go_wp2_with fail;refine C2.out.mono ?_;rintro e w2 ⟨rfl,rfl⟩;go_wp2_with fail;refine C3.out.mono ?_;rintro e w3 ⟨rfl,al,aj⟩;go_wp2_with fail;go_ret2;rw[HG.out];exact⟨rfl,al,U.out.trans aj⟩
   ·have hy:X / 2 ^ (15-l)<fst ls l∨fst ls l+cn ls l<=X / 2 ^ (15-l):=by
     by_cases h:X / 2 ^ (15-l)<fst ls l
     ·exact .inl h
     ·refine .inr (Nat.le_of_not_lt fun h2=>M ⟨X / 2 ^ (15-l)-fst ls l,nB,nB⟩)
    have an:=ID X (2 ^ (15-l));have C2:=dT w1 L cB gc ls (X / 2 ^ (15-l)) l N.out ab.out nB nB nB hy;rw[Oz]at C2;have C2:=hid C2;have E:∀s,hit ls X l s=false:=(by obtain⟨j,rfl⟩:∃j,l=j+1:=⟨l-1,nB⟩;exact d6 J.out hy);have ai:=hid E;clear M hy an J E;go_wp2_with fail;refine C2.out.mono ?_;rintro e w2 ⟨rfl,rfl⟩;go_wp2_with fail;go_roundw
    case measure=>exact ld
    case rel=>go_light;exact⟨l+1,nB,nB,lj,ai.out,trivial⟩
  ·have Q:l-1=th:=nB;have E:=J.out;rw[Q]at E;have hG:=W9 E;obtain⟨_,aa,_⟩:=ok_parts N.out;rw[<-YP aa]at hG;have HG:=hid hG;by_cases ah:th<15
   ·have C2:=X8 w1 L cB gc ls (X / 2 ^ (15-th)) th N.out ab.out ah (YK X th hX am);rw[Oz]at C2;have C2:=hid C2;have x1:(th:Int)<15:=nB;cases G:IU ls (X / 2 ^ (15-th)) th
    ·rw[G]at C2 HG;clear Q J E hG aa G;go_wp2_with fail;refine C2.out.mono ?_;rintro e w2 ⟨rfl,q2,rfl⟩;go_wp2_with fail;go_ret2;rw[HG.out];exact⟨rfl,Y.out.drewN q2,U.out.drewN q2⟩
    ·rw[G]at C2 HG;clear Q J E hG aa G;go_wp2_with fail;refine C2.out.mono ?_;rintro e w2 ⟨rfl,q2,rfl⟩;go_wp2_with fail;go_ret2;rw[HG.out];exact⟨rfl,Y.out.drewN q2,U.out.drewN q2⟩
   ·have G:IU ls (X / 2 ^ (15-th)) th=false:=PE fun k h1 h2=>by omega
    rw[G]at HG;clear Q J E hG aa G;go_wp2_with fail;go_ret2;rw[HG.out];exact⟨rfl,Y.out,U.out⟩
end Huff
namespace Huff
open Go.RowKit Mem Canon Own
end Huff
namespace Huff
open Go.RowKit Mem Canon Own
def I4(bs:List Bool)(at_ m:Nat):Nat:=if at_+m<=bs.length then AN bs at_ m else 0
def I2(bs:List Bool)(at_ m:Nat):Int:=if at_+m<=bs.length then 0 else 1
def I1(bs:List Bool)(at_ m:Nat):Nat:=if at_+m<=bs.length then at_+m else at_
theorem JX(w:World)(lo g:Nat)(bs:List Bool)(at_ m:Nat)(hm:m<=64)(hR:Rd w lo g bs at_):
 Calls prog 298 #[.pointer (some ⟨g,0,none⟩), .int .i64 (m:Nat)] w fun e w'=>e= .returned (.tuple #[.int .u64 (I4 bs at_ m:Nat), .int .i64 (I2 bs at_ m)])/\Rd w' lo g bs (I1 bs at_ m)/\Kept (fun x=>x≠g) w w':=by
 have C:=hid (left_any w lo g bs at_ hR);have HR:=hid hR;have G:at_<=bs.length/\bs.length<=800000:=nj
 obtain⟨N,M⟩:=G;have c2:=hR.cellAt;have f2:w.frozen? ⟨g,2,none⟩=false:=by obtain⟨A,n,c,ls,h1,_⟩:=hR;exact h1.frozen 2
 unfold I4 I2 I1;by_cases i:at_+m<=bs.length
 ·rw[Ag i,Ag i,Ag i];have C2:=hid (NK w lo g bs at_ m hm hR);have x1:(m:Int)<=((bs.length-at_:Nat):Int):=by omega
  have L:=hid i;generalize AN bs at_ m=y at *;clear hR i;go_enter func298,ntmps298;go_wp2_with fail;refine C.out.mono ?_;rintro e w1 ⟨rfl,q,hq⟩;have j:Rd w1 lo g bs at_:=by rw[hq];exact HR.out.drewN q
  have d2:=j.cellAt;have g2:w1.frozen? ⟨g,2,none⟩=false:=by rw[hq];exact f2
  have C4:Hid (∀p,Calls prog 329 #[.pointer (some ⟨g,0,none⟩), .int .i64 (at_:Nat), .int .i64 (m:Nat)] (w1.drewN p) fun e w'=>e= .returned (.int .u64 (y:Nat))/\w'=w1.drewN p):=by intro p;have h:=C2.out (q+p);rw[hq,EW];exact h
  have J:=hid j;have E:Hid (Kept (fun x=>x≠g) w w1):=by show Kept _ w w1;rw[hq];exact(Kept.refl _ w).drewN q
  clear hq j C C2 c2 f2;go_wp2_with fail;go_quiet (first|(go_at_call 329;exact Dn (C4.out _)));go_wp2_with fail;go_ret2;exact⟨rfl,(J.out.drewN _).moved L.out,Kept.set (p:=⟨g,2,none⟩) (E.out.drewN _) (fun h=>h rfl) _⟩
 ·rw[Ae i,Ae i,Ae i];have x1:¬(m:Int)<=((bs.length-at_:Nat):Int):=by omega
  clear hR;go_enter func298,ntmps298;go_wp2_with fail;refine C.out.mono ?_;rintro e w1 ⟨rfl,q,rfl⟩;go_wp2_with fail;go_ret2;exact⟨rfl,HR.out.drewN q,(Kept.refl _ w).drewN q⟩
end Huff
namespace Huff
open Go.RowKit Mem Canon Own
def unC(bs:List Bool):Nat->Nat->Nat
 |_,0=>0
 |i,f+1=>if bit bs i=1 then 0 else unC bs (i+1) f+1
def unD(bs:List Bool)(at_:Nat):Nat:=unC bs at_ (bs.length-at_)
def unV(bs:List Bool)(at_:Nat):Nat:=if at_+unD bs at_<bs.length then unD bs at_ else 0
def unE(bs:List Bool)(at_:Nat):Int:=if at_+unD bs at_<bs.length then 0 else 1
def unA(bs:List Bool)(at_:Nat):Nat:=if at_+unD bs at_<bs.length then at_+unD bs at_+1 else at_
theorem YM{bs:List Bool}{at_:Nat}(h:unD bs at_=i-at_+unC bs i (bs.length-i))(h1:at_<=i)(h2:i<bs.length)(hb:bit bs i=1):unV bs at_=i-at_/\unE bs at_=0/\unA bs at_=i+1:=by
 have e:bs.length-i=(bs.length-(i+1))+1:=nB
 rw[e,unC,Ag hb,Cw]at h;unfold unV unE unA;rw[h,Ag nB,Ag nB,Ag nB];exact⟨rfl,rfl,nB⟩
theorem mJ{bs:List Bool}{at_:Nat}(h:unD bs at_=i-at_+unC bs i (bs.length-i))(h1:at_<=i)(h2:i<bs.length)(hb:bit bs i≠1):unD bs at_=i+1-at_+unC bs (i+1) (bs.length-(i+1)):=by
 have e:bs.length-i=(bs.length-(i+1))+1:=nB
 rw[e,unC,Ae hb]at h;omega
theorem Yu{bs:List Bool}{at_:Nat}(h:unD bs at_=i-at_+unC bs i (bs.length-i))(h1:at_<=i)(h2:i=bs.length):unV bs at_=0/\unE bs at_=1/\unA bs at_=at_:=by rw[h2,Gl,unC]at h;unfold unV unE unA;rw[Ae nB,Ae nB,Ae nB];exact⟨rfl,rfl,rfl⟩
theorem Zf(w:World)(lo g:Nat)(bs:List Bool)(at_:Nat)(hR:Rd w lo g bs at_):
 Calls prog 296 #[.pointer (some ⟨g,0,none⟩)] w fun e w'=>e= .returned (.tuple #[.int .i64 (unV bs at_:Nat), .int .i64 (unE bs at_)])/\Rd w' lo g bs (unA bs at_)/\Kept (fun x=>x≠g) w w':=by
 have HR:=hid hR;obtain⟨A,n,c,ls,h1,h2,h3,h4,h5,h6,h7⟩:=hR;have hl:bs.length=8*n:=by rw[h5,EY,h3]
 have hz:bs.length<=800000:=nB
 have J:at_<=bs.length:=nB
 have c0:=h1.iy 0;have c1:=h1.iy 1;have c2:=h1.iy 2;have f2:=h1.frozen 2;rw[<-hl]at c1;have DB:=hid (fun i hi=>Sd w g g A n c i ls h3 h7 h4 (by omega:i<8*n) c0 h2.row);rw[<-h5,<-hl]at DB;have H1:Hid (unD bs at_=at_-at_+unC bs at_ (bs.length-at_)):=by show _=_;unfold unD;omega
 clear h1 h2 h3 h4 h5 h6 h7 hl c0;obtain⟨z,j⟩:=jc bs.length;rw[<-j]at c1 hz J DB;have HZ:=hid j;clear j;go_enter func296,ntmps296;go_wp2_with fail;go_loopw [4] (fun iv wr=>∃i:Nat,at_<=i/\i<=z/\iv= .int .i64 i/\Hid (wr=w)/\Hid (unD bs at_=i-at_+unC bs i (bs.length-i))) (fun iv _=>z-(intOf iv).toNat)
 case atStart=>exact⟨at_,Am _,J,rfl,rfl,H1.out⟩
 case round=>
  obtain⟨i,E,Y,rfl,hw,HU⟩:=hrel;have hw:=hw.out;subst hw;clear H1;by_cases G:i<z
  ·have g1:=ja ((i:Int)<z);have Q:=ja (i<z);have D:=hid (DB.out i G);by_cases hb:bit bs i=1
   ·have UU:=hid (YM HU.out E (by rw[<-HZ.out];exact G) hb);have U:IntKind.i64.wrap ((i:Int)-(at_:Int))=((i-at_:Nat):Int):=nX;have N:Hid (Rd (wr.setCell ⟨g,2,none⟩ (.int .i64 ((i:Int)+1))) lo g bs (i+1)):=(by have h:=HR.out.moved (k:=i+1-at_) (by rw[<-HZ.out];omega);rw[show((at_:Int)+((i+1-at_:Nat):Int))=(i:Int)+1 by omega,show at_+(i+1-at_)=i+1 by omega]at h;exact h);rw[hb]at D;clear hb HU DB;go_wp2_with fail;refine D.out.mono ?_;rintro e w1 ⟨rfl,rfl⟩;go_wp2_with fail;go_ret2;rw[UU.out.1,UU.out.2.1,UU.out.2.2];exact⟨rfl,N.out,(Kept.refl _ _).set (fun h=>h rfl) _⟩
   ·have L:bit bs i=0:=(by have:=EP bs i;omega);have M:=hid (mJ HU.out E (by rw[<-HZ.out];exact G) hb);rw[L]at D;clear hb L HU;go_wp2_with fail;refine D.out.mono ?_;rintro e w1 ⟨rfl,rfl⟩;go_wp2_with fail;go_roundw
    case measure=>exact ld
    case rel=>go_light;exact⟨i+1,nB,nB,jk,trivial,M.out⟩
  ·obtain rfl:i=z:=by omega
   have g1:=jb ((i:Int)<i);have UU:=hid (Yu HU.out E HZ.out);clear HU DB;go_wp2_with fail;go_ret2;rw[UU.out.1,UU.out.2.1,UU.out.2.2];exact⟨rfl,HR.out,Kept.refl _ _⟩
end Huff
end Go.Proofs.YtfgdoknipbpfhaaGreatDoor
