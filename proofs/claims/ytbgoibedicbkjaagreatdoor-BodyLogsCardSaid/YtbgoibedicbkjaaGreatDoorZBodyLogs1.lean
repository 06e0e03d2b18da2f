/- Words for memory, fo -/
import Derived.WalkKit
import Derived.ProofKit
import Derived.Lib.Hide
import Derived.Laws.OwnMore
import Derived.Deep.Draws
import Derived.Maps.AppendAt
import Derived.Test.YtbgoibedicbkjaaGreatDoorProg
import Derived.BigQuiet
import Derived.BigGuardPart
import Derived.Deep.QuietTactic
import Derived.Deep.Light
import Derived.Laws.Rows
import Derived.Deep.MidRow
import Derived.Deep.DeepCutAuto
namespace Go.Proofs.YtbgoibedicbkjaaGreatDoor
section
open Go Go.RowKit
theorem Aa:type_of% @if_neg:=@if_neg
theorem Ab:type_of% @if_pos:=@if_pos
theorem Ae:type_of% @World.ownsRow.lt:=@World.ownsRow.lt
theorem Ag:type_of% @Below.refl:=@Below.refl
theorem Ai:type_of% @List.length_append:=@List.length_append
theorem Aj:type_of% @Nat.le_refl:=@Nat.le_refl
theorem Ak:type_of% @IntWalk.i64_in:=@IntWalk.i64_in
theorem Am:type_of% @World.ownsRow_nil:=@World.ownsRow_nil
theorem Aq:type_of% @Below.drew:=@Below.drew
theorem Ar:type_of% @List.getD_eq_getElem?_getD:=@List.getD_eq_getElem?_getD
theorem Aw:type_of% @decide_eq_true:=@decide_eq_true
theorem Az:type_of% @decide_eq_false:=@decide_eq_false
theorem AD:type_of% @List.getElem?_eq_getElem:=@List.getElem?_eq_getElem
theorem AJ:type_of% @congrArg:=@congrArg
theorem AK:type_of% @Below.heap_setCell:=@Below.heap_setCell
theorem AN:type_of% @bodyPost_ret:=@bodyPost_ret
theorem AO:type_of% @List.length_take:=@List.length_take
theorem AQ:type_of% @List.length_drop:=@List.length_drop
theorem AV:type_of% @Nat.le_trans:=@Nat.le_trans
theorem AY:type_of% @Nat.zero_le:=@Nat.zero_le
theorem Bb:type_of% @List.mem_of_mem_drop:=@List.mem_of_mem_drop
theorem Bg:type_of% @Ne.symm:=@Ne.symm
theorem Bh:type_of% @List.length_cons:=@List.length_cons
theorem Bq:type_of% @Nat.zero_add:=@Nat.zero_add
theorem Br:type_of% @IntKind.wrap_u64:=@IntKind.wrap_u64
theorem Bu:type_of% @Nat.pow_le_pow_right:=@Nat.pow_le_pow_right
theorem Bv:type_of% @List.take_of_length_le:=@List.take_of_length_le
theorem Bw:type_of% @List.getElem?_map:=@List.getElem?_map
theorem BE:type_of% @Nat.lt_irrefl:=@Nat.lt_irrefl
theorem BF:type_of% @List.mem_of_getElem?:=@List.mem_of_getElem?
theorem BH:type_of% @List.mem_append:=@List.mem_append
theorem BI:type_of% @Below.heap_alloc:=@Below.heap_alloc
theorem BN:type_of% @List.length_map:=@List.length_map
theorem BO:type_of% @List.getElem?_eq_some_iff:=@List.getElem?_eq_some_iff
theorem BV:type_of% @List.mem_of_mem_take:=@List.mem_of_mem_take
theorem BZ:type_of% @List.mem_cons:=@List.mem_cons
theorem B0:type_of% @Calls.quiet_of_same:=@Calls.quiet_of_same
theorem Ce:type_of% @List.drop_of_length_le:=@List.drop_of_length_le
theorem Cl:type_of% @Int.toNat_natCast:=@Int.toNat_natCast
theorem CC:type_of% @List.drop_eq_getElem_cons:=@List.drop_eq_getElem_cons
theorem CD:type_of% @Bool.and_eq_true:=@Bool.and_eq_true
theorem CL:type_of% @World.drewN_drewN:=@World.drewN_drewN
theorem CM:type_of% @List.length_replicate:=@List.length_replicate
theorem CW:type_of% @Nat.add_zero:=@Nat.add_zero
theorem Dd:type_of% @beq_eq_false_iff_ne:=@beq_eq_false_iff_ne
theorem De:type_of% @Nat.lt_of_lt_of_le:=@Nat.lt_of_lt_of_le
theorem Df:type_of% @List.mem_singleton:=@List.mem_singleton
theorem Ds:type_of% @results_none:=@results_none
theorem Ed:type_of% @List.take_add_one:=@List.take_add_one
theorem Ee:type_of% @List.map_cons:=@List.map_cons
theorem En:type_of% @Nat.pow_succ:=@Nat.pow_succ
theorem Eo:type_of% @List.mem_range:=@List.mem_range
theorem Ep:type_of% @List.mem_map:=@List.mem_map
theorem Er:type_of% @List.length_nil:=@List.length_nil
theorem EC:type_of% @Nat.add_mul:=@Nat.add_mul
theorem EL:type_of% @Nat.sub_self:=@Nat.sub_self
theorem EM:type_of% @Nat.mul_one:=@Nat.mul_one
theorem EN:type_of% @Nat.mul_le_mul_right:=@Nat.mul_le_mul_right
theorem EO:type_of% @Classical.byContradiction:=@Classical.byContradiction
theorem EV:type_of% @List.mem_cons_self:=@List.mem_cons_self
theorem EW:type_of% @List.mem_cons_of_mem:=@List.mem_cons_of_mem
theorem EX:type_of% @List.append_assoc:=@List.append_assoc
theorem Fh:type_of% @Nat.succ_mul:=@Nat.succ_mul
theorem Fi:type_of% @List.append_nil:=@List.append_nil
theorem Fj:type_of% @Bool.eq_false_iff:=@Bool.eq_false_iff
theorem FF:type_of% @List.eq_nil_of_length_eq_zero:=@List.eq_nil_of_length_eq_zero
theorem FG:type_of% @ByteArray.toList_eq:=@ByteArray.toList_eq
theorem FZ:type_of% @Option.getD_some:=@Option.getD_some
theorem Ga:type_of% @Nat.two_pow_pos:=@Nat.two_pow_pos
theorem Gb:type_of% @List.nil_append:=@List.nil_append
theorem Gq:type_of% @Nat.mul_le_mul:=@Nat.mul_le_mul
theorem Gr:type_of% @List.getElem?_eq_none:=@List.getElem?_eq_none
theorem Gs:type_of% @IntKind.wrap_u8':=@IntKind.wrap_u8'
theorem Gu:type_of% @Array.getElem?_setIfInBounds:=@Array.getElem?_setIfInBounds
theorem GP:type_of% @UInt8.toNat_lt:=@UInt8.toNat_lt
theorem GQ:type_of% @Nat.div_le_self:=@Nat.div_le_self
theorem GR:type_of% @List.sum_cons:=@List.sum_cons
theorem GS:type_of% @List.map_nil:=@List.map_nil
theorem GT:type_of% @List.getElem?_append_left:=@List.getElem?_append_left
theorem GU:type_of% @List.drop_zero:=@List.drop_zero
theorem Hn:type_of% @List.range_succ:=@List.range_succ
theorem Ho:type_of% @List.pairwise_cons:=@List.pairwise_cons
theorem Hp:type_of% @List.map_append:=@List.map_append
theorem Hq:type_of% @List.length_pos_iff:=@List.length_pos_iff
theorem Hr:type_of% @List.getElem_mem:=@List.getElem_mem
theorem Hs:type_of% @List.getElem?_take:=@List.getElem?_take
theorem Ht:type_of% @List.cons_append:=@List.cons_append
theorem Hu:type_of% @List.all_eq_true:=@List.all_eq_true
theorem Hv:type_of% @IntKind.wrap_u32':=@IntKind.wrap_u32'
theorem Hw:type_of% @Bool.false_and:=@Bool.false_and
theorem Ix:type_of% @List.take_append_drop:=@List.take_append_drop
theorem Iy:type_of% @List.sum_append:=@List.sum_append
theorem Iz:type_of% @List.getElem?_drop:=@List.getElem?_drop
theorem IB:type_of% @List.flatMap_cons:=@List.flatMap_cons
theorem IC:type_of% @IntWalk.wrap64_in:=@IntWalk.wrap64_in
theorem ID:type_of% @Bool.eq_iff_iff:=@Bool.eq_iff_iff
theorem Jo:type_of% @Nat.div_div_eq_div_mul:=@Nat.div_div_eq_div_mul
theorem Jp:type_of% @List.getElem?_append_right:=@List.getElem?_append_right
theorem Jq:type_of% @Decidable.byContradiction:=@Decidable.byContradiction
theorem J1:type_of% @List.map_congr_left:=@List.map_congr_left
theorem J2:type_of% @List.length_singleton:=@List.length_singleton
theorem J3:type_of% @List.length_eq_zero_iff:=@List.length_eq_zero_iff
theorem J4:type_of% @List.flatMap_append:=@List.flatMap_append
theorem J5:type_of% @Int.eq_ofNat_of_zero_le:=@Int.eq_ofNat_of_zero_le
theorem LF:type_of% @Nat.mod_two_eq_zero_or_one:=@Nat.mod_two_eq_zero_or_one
theorem LG:type_of% @Nat.and_two_pow_sub_one_eq_mod:=@Nat.and_two_pow_sub_one_eq_mod
theorem LH:type_of% @Nat.add_sub_cancel_left:=@Nat.add_sub_cancel_left
theorem LI:type_of% @Array.size_setIfInBounds:=@Array.size_setIfInBounds
theorem LJ:type_of% @Array.getElem?_eq_getElem:=@Array.getElem?_eq_getElem
end
open Go.Lib (hid)
set_option maxHeartbeats 1000000
set_option maxRecDepth 100000
namespace Mem
open Go.RowKit
theorem below_drewN{B:Nat}{a w:World}(h:Below B a w)(n:Nat):Below B a (w.drewN n):=⟨h.os,h.tape,h.output,h.size,h.block⟩
theorem nZ{B:Nat}{a w:World}{p:Addr}{u:Value}(hp:B<=p.block)(h:Below B a w):Below B a (w.setCell p u):=h.setCell hp u
theorem kZ{B:Nat}{a w:World}{o:Obj}(hB:B<=w.heap.size)(h:Below B a w):Below B a (w.alloc o):=h.alloc hB o
theorem bZ{a w:World}{o:Obj}(h:Below a.heap.size a w):Below a.heap.size a (w.alloc o):=h.alloc h.size o
theorem eZ{a b c:World}(h:Below b.heap.size b c)(k:Below a.heap.size a b):Below a.heap.size a c:=k.trans (h.mono k.size)
theorem Cn{B:Nat}{a b c:World}(h:Below b.heap.size b c)(hB:B<=b.heap.size)(k:Below B a b):Below B a c:=k.trans (h.mono hB)
theorem qZ{B:Nat}{a w:World}{p:Addr}{u:Value}(h:Below B a w)(hp:B<=p.block:=by first|(simp;done)|(simp;omega)|omega|(simp at *;omega)):Below B a (w.setCell p u):=h.setCell hp u
theorem belA{B:Nat}{a w:World}{o:Obj}(h:Below B a w)(hB:B<=w.heap.size:=by first|(simp;done)|(simp;omega)|omega|(simp at *;omega)):Below B a (w.alloc o):=h.alloc hB o
theorem rZ{B:Nat}{a b c:World}(h:Below b.heap.size b c)(k:Below B a b)(hB:B<=b.heap.size:=by first|(simp;done)|(simp;omega)|omega|(simp at *;omega)):Below B a c:=k.trans (h.mono hB)
theorem Do{a b:Bool}(h:a=b):Ending.returned (.bool a)= .returned (.bool b):=by rw[h]
theorem JN{k:IntKind}{a b:Int}(h:a=b):Ending.returned (.int k a)= .returned (.int k b):=by rw[h]
def Blk(w:World)(g:Nat)(t:TypeId)(cs:Array Value):Prop:=w.heap[g]? =some (.cells cs t (0,0))
section
variable {w w':World} {g:Nat} {t:TypeId} {cs:Array Value}
theorem Blk.lt(h:Blk w g t cs):g<w.heap.size:=by
 unfold Blk at h;rcases Nat.lt_or_ge g w.heap.size with k|k
 ·exact k
 ·rw[Array.getElem?_eq_none k]at h;cases h
theorem Blk.cell(h:Blk w g t cs)(i:Nat):w.cell? ⟨g,i,none⟩=cs[i]? :=by unfold Blk at h;simp[World.cell?,h]
theorem Blk.frozen(h:Blk w g t cs)(i:Nat):w.frozen? ⟨g,i,none⟩=false:=by unfold Blk at h;simp[World.frozen?,h]
theorem Blk.six{a0 a1 a2 a3 a4 a5:Value}(h:Blk w g t #[a0,a1,a2,a3,a4,a5]):w.cell? ⟨g,0,none⟩=some a0/\w.cell? ⟨g,1,none⟩=some a1/\w.cell? ⟨g,2,none⟩=some a2/\w.cell? ⟨g,3,none⟩=some a3/\w.cell? ⟨g,4,none⟩=some a4/\w.cell? ⟨g,5,none⟩=some a5:=⟨h.cell 0,h.cell 1,h.cell 2,h.cell 3,h.cell 4,h.cell 5⟩
theorem Blk.sixf(h:Blk w g t cs):w.frozen? ⟨g,0,none⟩=false/\w.frozen? ⟨g,1,none⟩=false/\w.frozen? ⟨g,2,none⟩=false/\w.frozen? ⟨g,3,none⟩=false/\w.frozen? ⟨g,4,none⟩=false/\w.frozen? ⟨g,5,none⟩=false:=⟨h.frozen 0,h.frozen 1,h.frozen 2,h.frozen 3,h.frozen 4,h.frozen 5⟩
theorem Blk.made(w:World)(t:TypeId)(cs:Array Value):Blk (w.alloc (.cells cs t)) w.heap.size t cs:=heap_alloc_new w _
theorem Blk.made_at(w:World)(t:TypeId)(cs:Array Value)(hg:g=w.heap.size):Blk (w.alloc (.cells cs t)) g t cs:=by subst hg;exact Blk.made w t cs
theorem Blk.drew(h:Blk w g t cs):Blk w.drew g t cs:=h
theorem Blk.drewN(h:Blk w g t cs)(n:Nat):Blk (w.drewN n) g t cs:=h
theorem Blk.alloc(h:Blk w g t cs)(o:Obj):Blk (w.alloc o) g t cs:=(BI w o g h.lt).trans h
theorem Blk.set(h:Blk w g t cs)(i:Nat)(u:Value):Blk (w.setCell ⟨g,i,none⟩ u) g t (cs.setIfInBounds i u):=by unfold Blk at h ⊢;simp[World.setCell,Array.getElem?_modify,h]
theorem Blk.far(h:Blk w g t cs){p:Addr}(hp:g≠p.block)(u:Value):Blk (w.setCell p u) g t cs:=(AK w p u g hp).trans h
theorem Blk.below{B:Nat}(h:Blk w g t cs)(hb:Below B w w')(hg:g<B):Blk w' g t cs:=(hb.block g hg).trans h
theorem Blk.step(h:Blk w g t cs)(hb:Below w.heap.size w w'):Blk w' g t cs:=h.below hb h.lt
theorem Blk.grown{row:Option Nat}(h:Blk w g t cs)(hb:w.grownBy w' row)(hg:some g≠row):Blk w' g t cs:=(hb.block g h.lt hg).trans h
theorem Blk.apart{g':Nat}{t':TypeId}{i:Array Value}(h:Blk w g t cs)(h':Blk w g' t' i)(j:t≠t'):g≠g':=by intro e;subst e;unfold Blk at h h';rw[h]at h';injection h' with h';injection h' with _ ht;exact j ht
end
def Wf(A:Option Addr)(n c:Nat):Prop:=(A=none->n=0/\c=0)/\n<=c
theorem Wf.nil:Wf none 0 0:=⟨fun _=>⟨rfl,rfl⟩,Aj _⟩
theorem Wf.some{a:Addr}{n c:Nat}(h:n<=c):Wf (Option.some a) n c:=⟨(fun h=>by cases h),h⟩
def Row(w:World)(B:Nat)(A:Option Addr)(n s:Nat)(f:Nat->Nat->Value):Prop:=
 0<n->∃b off,A=some ⟨b,off,none⟩/\b<B/\∀i j,i<n->j<s->w.cell? ⟨b,off+(i*s+j),none⟩=some (f i j)
section
variable {w w':World} {B B' n s:Nat} {A:Option Addr} {f g:Nat->Nat->Value}
theorem Row.zero:Row w B A 0 s f:=fun h=>absurd h (by omega)
theorem Row.keep(h:Row w B A n s f)(hk:∀p:Addr,p.block<B->w'.cell? p=w.cell? p):Row w' B A n s f:=fun hn=>by obtain⟨b,y,e,hb,hc⟩:=h hn;exact⟨b,y,e,hb,fun i j hi hj=>(hk _ hb).trans (hc i j hi hj)⟩
theorem Row.below(h:Row w B A n s f)(hb:Below B w w'):Row w' B A n s f:=h.keep fun _ hp=>hb.cell hp
theorem Row.mono(h:Row w B A n s f)(hB:B<=B'):Row w B' A n s f:=fun hn=>by obtain⟨b,i,e,hb,hc⟩:=h hn;exact⟨b,i,e,by omega,hc⟩
theorem Row.drewN(h:Row w B A n s f)(k:Nat):Row (w.drewN k) B A n s f:=h
theorem Row.congr(h:Row w B A n s f)(z:∀i j,i<n->j<s->f i j=g i j):Row w B A n s g:=fun hn=>by obtain⟨b,y,e,hb,hc⟩:=h hn;exact⟨b,y,e,hb,fun i j hi hj=>by rw[<-z i j hi hj];exact hc i j hi hj⟩
theorem Row.alloc(h:Row w B A n s f)(hB:B<=w.heap.size)(o:Obj):Row (w.alloc o) B A n s f:=h.keep fun p hp=>World.cell?_alloc_lt (w:=w) (a:=p) (o:=o) (by omega)
theorem Row.of_blk{t:TypeId}{cs:Array Value}{b:Nat}(h:Blk w b t cs)(hB:b<B)(hf:∀i j,i<n->j<s->cs[i*s+j]? =some (f i j)):Row w B (some ⟨b,0,none⟩) n s f:=
 fun _=>⟨b,0,rfl,hB,fun i j hi hj=>by rw[Bq,h.cell];exact hf i j hi hj⟩
theorem Row.of_own{base:Nat}{e:TypeId}{v:Value}{xs:List Value}{c:Nat}(h:w.ownsRow base e s v n xs)(hv:v= .slice A n c)(hf:∀i j,i<n->j<s->xs[i*s+j]? =some (f i j)):Row w w.heap.size A n s f:=fun hn=>by
 rcases h.2 with ⟨_,h0⟩|⟨g,J,cur,z,_,hh,G,_,E,y⟩
 ·omega
 ·rw[hv]at z;injection z with e1 e2 e3;refine⟨g,0,e1,Blk.lt hh,fun i j hi hj=> ?_⟩;rw[Bq,Blk.cell hh];have:=hf i j hi hj;rw[<-y,Hs]at this;split at this
  ·simpa using this
  ·cases this
end
theorem aZ{w:World}{base:Nat}{e:TypeId}{s n:Nat}{v:Value}{xs:List Value}(h:w.ownsRow base e s v n xs):∃A c,v= .slice A n c:=by
 rcases h.2 with ⟨rfl,rfl⟩|⟨g,i,cur,rfl,_⟩
 ·exact⟨_,_,rfl⟩
 ·exact⟨_,_,rfl⟩
end Mem
namespace Canon
open Go.RowKit Mem
def cnt(ls:List Nat)(l:Nat):Nat:=ls.countP (fun x=>decide (x=l))
def cn(ls:List Nat)(l:Nat):Nat:=if l=0 then 0 else cnt ls l
theorem Is(l:Nat):cnt [] l=0:=rfl
theorem Fc(ls:List Nat)(x l:Nat):cnt (ls++ [x]) l=cnt ls l+if x=l then 1 else 0:=by unfold cnt;rw[List.countP_append];by_cases h:x=l<;>simp[h]
theorem KW(ls:List Nat)(l:Nat):cnt ls l<=ls.length:=List.countP_le_length
theorem Ie(ls:List Nat)(l:Nat):cn ls l<=ls.length:=by
 unfold cn;split
 ·omega
 ·exact KW ls l
theorem Fa{α:Type}{l:List α}{k:Nat}{x:α}(h:l[k]? =some x):l.take (k+1)=l.take k++ [x]:=by rw[Ed,h];rfl
def Cj(ls:List Nat):Nat->Nat
 |0=>0
 |l+1=>Cj ls l+cn ls l*2 ^ (15-l)
def Em(ls:List Nat):Nat->Nat
 |0=>0
 |l+1=>Em ls l+cn ls l
def Dw(ls:List Nat):Nat:=(ls.map fun x=>if x=0 then 0 else 2 ^ (15-x)).sum
def used(ls:List Nat):Nat:=ls.countP (fun x=>decide (x≠0))
theorem Pm(x:Nat)(ls:List Nat)(l:Nat):cn (x :: ls) l=cn ls l+if x≠0/\x=l then 1 else 0:=by
 unfold cn cnt;by_cases hl:l=0
 ·subst hl;simp
 ·rw[Aa hl,Aa hl,List.countP_cons];by_cases hx:x=l
  ·simp[hx,hl]
  ·simp[hx]
theorem NK:∀l,Cj [] l=0
 |0=>rfl
 |l+1=>by rw[Cj,NK l];simp[cn,Is]
theorem Nx:∀l,Em [] l=0
 |0=>rfl
 |l+1=>by rw[Em,Nx l];simp[cn,Is]
theorem QC(x:Nat)(ls:List Nat):∀l,Cj (x :: ls) l=Cj ls l+if x≠0/\x<l then 2 ^ (15-x)else 0
 |0=>by simp[Cj]
 |l+1=>by
  rw[Cj,QC x ls l,Cj,Pm,EC];by_cases h0:x=0
  ·simp[h0]
  ·by_cases h1:x=l
   ·subst h1;simp[h0];omega
   ·by_cases h2:x<l
    ·have:x<l+1:=(by omega);simp[h0,h1,h2,this];omega
    ·have:¬x<l+1:=(by omega);simp[h1,h2,this]
theorem Qs(x:Nat)(ls:List Nat):∀l,Em (x :: ls) l=Em ls l+if x≠0/\x<l then 1 else 0
 |0=>by simp[Em]
 |l+1=>by
  rw[Em,Qs x ls l,Em,Pm];by_cases h0:x=0
  ·simp[h0]
  ·by_cases h1:x=l
   ·subst h1;simp[h0];omega
   ·by_cases h2:x<l
    ·have:x<l+1:=(by omega);simp[h0,h1,h2,this];omega
    ·have:¬x<l+1:=(by omega);simp[h1,h2,this]
theorem Kx:∀ (ls:List Nat),(∀x∈ls,x<=15)->Cj ls 16=Dw ls
 | [],_=>by rw[NK];rfl
 |x :: ls,h=>by
  have h1:=h x (by simp);rw[QC,Kx ls (fun y hy=>h y (by simp[hy]))];unfold Dw;rw[Ee,GR];by_cases h0:x=0
  ·simp[h0]
  ·have:x<16:=(by omega);simp[h0,this];omega
theorem KO:∀ (ls:List Nat),(∀x∈ls,x<=15)->Em ls 16=used ls
 | [],_=>by rw[Nx];rfl
 |x :: ls,h=>by
  have h1:=h x (by simp);rw[Qs,KO ls (fun y hy=>h y (by simp[hy]))];unfold used;rw[List.countP_cons];by_cases h0:x=0
  ·simp[h0]
  ·have:x<16:=(by omega);simp[h0,this]
def okB(ls:List Nat):Bool:=decide (ls.length<=300)&&ls.all (fun x=>decide (x<=15))&&(decide (used ls=0) || decide (used ls=1/\cnt ls 1=1) || decide (Dw ls=32768))
def fst(ls:List Nat):Nat->Nat
 |0=>0
 |l+1=>2*(fst ls l+cn ls l)
def code(ls:List Nat)(s:Nat):Nat:=let x:=ls.getD s 0;if x=0 then 0 else fst ls x+cnt (ls.take s) x
def codes(ls:List Nat):List Nat:=(List.range ls.length).map (code ls)
theorem KU(ls:List Nat):∀l,fst ls l+2*ls.length<=2 ^ (l+1)*ls.length
 |0=>by simp[fst]
 |l+1=>by
  have h1:=KU ls l;have h2:=Ie ls l;have h3:2 ^ (l+1+1)*ls.length=2*(2 ^ (l+1)*ls.length):=by rw[En 2 (l+1),Nat.mul_comm (2 ^ (l+1)) 2,Nat.mul_assoc]
  rw[fst,h3];omega
def iZ(k:IntKind)(l:List Nat):Nat->Nat->Value:=fun i _=> .int k (l.getD i 0:Nat)
def Cnts(f:Nat->Nat)(n:Nat)(arr:Array Value):Prop:=arr.size=n/\∀l,l<n->arr[l]? =some (.int .i64 (f l))
theorem Cnts.set{f g:Nat->Nat}{n:Nat}{arr:Array Value}{x v:Nat}(h:Cnts f n arr)(hv:g x=v)(ho:∀l,l≠x->g l=f l):Cnts g n (arr.setIfInBounds x (.int .i64 (v:Nat))):=by
 refine⟨by rw[LI];exact h.1,fun l hl=> ?_⟩;rw[Gu];by_cases e:x=l
 ·subst e;rw[Ab rfl,Ab (by have:=h.1;omega),hv]
 ·rw[Aa e,h.2 l hl,ho l (Bg e)]
end Canon
namespace Canon
open Go.RowKit Mem
theorem Xz{cs:Array Value}{i:Nat}{v:Value}(h:cs[i]? =some v):cs.setIfInBounds i v=cs:=by
 apply Array.ext_getElem?
 intro j;rw[Gu];split
 ·rename_i e;subst e;obtain⟨hi,_⟩:=Array.getElem?_eq_some_iff.1 h;rw[Ab hi,h]
 ·rfl
theorem KF{g:Nat}{t:TypeId}{cs:Array Value}:∀ (vs:List Value) (o:Nat) (w:World),Blk w g t cs->(∀j v,vs[j]? =some v->cs[o+j]? =some v)->Blk (w.setCells g o vs) g t cs
 | [],_,_,h,_=>h
 |v :: vs,o,w,h,hc=>by
  refine KF vs (o+1) _ ?_ (fun j u hu=>by rw[show o+1+j=o+(j+1) by omega];exact hc (j+1) u hu);have:=h.set o v
  rwa [Xz (by simpa using hc 0 v rfl)]at this
theorem Jn{B g:Nat}{a:World}(hB:B<=g):∀ (vs:List Value) (o:Nat) (w:World),Below B a w->Below B a (w.setCells g o vs)
 | [],_,_,h=>h
 |_ :: vs,o,_,h=>Jn hB vs (o+1) _ (nZ (p:=⟨g,o,none⟩) hB h)
theorem JV{w:World}{g:Nat}{t:TypeId}{cs:Array Value}(h:Blk w g t cs):w.there g 0 cs.size:=fun j hj=>by rw[Bq];exact⟨by rw[h.cell,LJ hj];rfl,h.frozen j⟩
theorem Cnts.one{f:Nat->Nat}{n:Nat}{arr:Array Value}(h:Cnts f n arr):arr.all (·.oneCell')=true:=by rw[Array.all_eq_true];intro i hi;have:=h.2 i (by have:=h.1;omega);rw[LJ hi]at this;injection this with this;rw[this];rfl
theorem Cnts.zero:Cnts (fun _=>0) 16 #[.int .i64 0, .int .i64 0, .int .i64 0, .int .i64 0, .int .i64 0, .int .i64 0, .int .i64 0, .int .i64 0, .int .i64 0, .int .i64 0, .int .i64 0, .int .i64 0, .int .i64 0, .int .i64 0, .int .i64 0, .int .i64 0]:=by
 refine⟨rfl,fun l hl=> ?_⟩;have:l=0∨l=1∨l=2∨l=3∨l=4∨l=5∨l=6∨l=7∨l=8∨l=9∨l=10∨l=11∨l=12∨l=13∨l=14∨l=15:=by omega
 rcases this with rfl|rfl|rfl|rfl|rfl|rfl|rfl|rfl|rfl|rfl|rfl|rfl|rfl|rfl|rfl|rfl<;>rfl
theorem results_cell_tmp{P:Program}{fn:Func}{p q:Tmp}{ty:TypeId}(h:fn.results=#[.cell p ty, .tmp q])(i:Array Value)(w:World)(g:Nat)(t:TypeId)(cs:Array Value)(d:TypeDesc)(u:Value)
 (hp:i.getD p undef= .pointer (some ⟨g,0,none⟩))(hq:i.getD q undef=u)(hg:Blk w g t cs)
 (hu:P.underlying ty=some d)(hd:(match d with| .struct _| .array _ _=>true|_=>false)=true)(hi:(P.info? ty).map (·.size)=some cs.size):
 (results fn i).run P w= .ok (.tuple #[.agg cs,u]) w:=by
 have y:i[p]?.getD undef= .pointer (some ⟨g,0,none⟩):=by simpa using hp
 have j:i[q]?.getD undef=u:=by simpa using hq
 simp[results,h,y,j,asAddr,run_loadVar_row w g t ty cs (0,0) d hg hu hd hi]
theorem IH:(Tryz.prog.info? 356).map (·.size)=some 16:=by kernel_rfl
def BM(ls:List Nat):Bool:=decide (ls.length<=300)&&ls.all (fun x=>decide (x<=15))
def Uo(ls:List Nat)(w:World)(e:Ending)(w':World):Prop:=
 ∃ (arr:Array Value) (f:Nat->Nat),e= .returned (.tuple #[.agg arr, .bool (BM ls)])/\Cnts f 16 arr/\(∀l,f l<=300)/\(BM ls=true->f=cn ls)/\Below w.heap.size w w'
theorem Ci{w:World}{B n:Nat}{A:Option Addr}{k:IntKind}{ls:List Nat}(h:Row w B A n 1 (iZ k ls))(hn:ls.length=n){i:Nat}(hi:i<n):
 ∃b j x,A=some ⟨b,j,none⟩/\b<B/\ls[i]? =some x/\w.cell? ⟨b,j+i,none⟩=some (.int k (x:Nat)):=by
 obtain⟨b,j,e,hb,hc⟩:=h (by omega);have hl:i<ls.length:=by omega
 have h1:=hc i 0 hi (by omega);simp only[iZ,Nat.mul_one,Nat.add_zero,List.getD_eq_getElem?_getD,List.getElem?_eq_getElem hl,Option.getD_some]at h1;exact⟨b,j,ls[i],e,hb,AD hl,h1⟩
theorem Qg(w:World)(A:Option Addr)(n c:Nat)(ls:List Nat)(hn:ls.length=n)(hN:n<=9223372036854775807)(ha:Row w w.heap.size A n 1 (iZ .u8 ls)):
 Calls Tryz.prog 274 #[.slice A n c] w (Uo ls w):=by
 have HN:=hid hn;clear hn;by_cases aw:n<=300
 ·have hd:decide (300<n)=false:=by simp;omega
  go_enter Tryz.func274,Tryz.ntmps274;go_wp2_with fail;go_loopw [12] (fun i wr=>∃ (k:Nat) (arr:Array Value),k<=n/\i= .int .i64 k/\Blk wr w.heap.size 356 arr/\Hid (Cnts (cnt (ls.take k)) 16 arr)/\Hid (∀x∈ls.take k,x<=15)/\Below w.heap.size w wr) (fun i _=>n-(intOf i).toNat)
  case atStart=>exact⟨0,_,by omega,rfl,Blk.made _ _ _,Cnts.zero,fun x hx=>by simp at hx,bZ (Ag _ _)⟩
  case round=>
   obtain⟨k,arr,hk,rfl,blk,G,al,N⟩:=hrel;have ac:(Tryz.prog.info? 356).map (·.size)=some arr.size:=(by rw[G.out.1];exact IH);have HI:=hid ac;clear ac;have an:=blk.frozen 0;by_cases au:k<n
   ·obtain⟨b,az,x,rfl,ay,hx,c0⟩:=Ci (ha.below N) HN.out au;have ah:=Fa hx;have HX:=hid hx;have af:=hid ah;clear hx ah;by_cases aq:15<x
    ·have M:BM ls=false:=(by unfold BM;have:ls.all (fun x=>decide (x<=15))=false:=(by rw[List.all_eq_false];exact⟨x,BF HX.out,by simpa using aq⟩);rw[this,Bool.and_false]);have HB:=hid M;clear M
     go_wp2_with(first
      |(refine wpList_load_row rfl 356 (.tmp 2) rfl w.heap.size (by rfl) _ arr (0,0) _ blk Tryz.underlying356 rfl HI.out ?_)
      |(refine wpList_store_mid rfl 356 (.tmp 2) _ rfl w.heap.size 0 arr (by rfl) (by rfl) (JV blk) HI.out G.out.one ?_))
     have L:=KF arr.toList 0 wr blk (fun j v hv=>by rw[Bq];simpa using hv);refine AN (results_cell_tmp rfl _ _ w.heap.size _ arr _ (.bool false) rfl rfl L Tryz.underlying356 rfl HI.out) rfl ⟨arr,cnt (ls.take k),by rw[HB.out],G.out,fun l=> ?_,(fun h=>by rw[HB.out]at h;cases h),Jn (Aj _) _ _ _ N⟩;have h1:=KW (ls.take k) l;rw[AO]at h1;omega
    ·have ab:=G.out.2 x (by omega);have c1:=blk.cell x;rw[ab]at c1;have f1:=blk.frozen x;have h1:=KW (ls.take k) x;rw[AO]at h1
     have ak:Cnts (cnt (ls.take (k+1))) 16 (arr.setIfInBounds x (.int .i64 ((cnt (ls.take k) x+1:Nat):Int))):=by
      refine G.out.set ?_ fun l hl=> ?_
      ·rw[af.out,Fc,Ab rfl]
      ·rw[af.out,Fc,Aa (fun e=>hl e.symm)];rfl
     generalize cnt (ls.take k) x=y at *;have ar:=hid ak
     have ai:∀z∈ls.take (k+1),z<=15:=by
      intro z hz;rw[af.out,BH,Df]at hz;rcases hz with hz|rfl
      ·exact al.out z hz
      ·omega
     have am:=hid ai;clear ab ak ai;have x1:(x:Int)<16:=(by omega);have x0:(0:Int)<=(x:Int):=(by omega);go_wp2_with fail;go_roundw
     case rel=>go_light;exact⟨k+1,_,by omega,by go_num,blk.set x _,ar,am,nZ (p:=⟨w.heap.size,x,none⟩) (Aj _) N⟩
     case measure=>go_light;simp[intOf];omega
   ·obtain rfl:k=n:=by omega
    have Y:ls.take k=ls:=Bv (by have:=HN.out;omega);have U:BM ls=true:=(by have:=al.out;rw[Y]at this;unfold BM;rw[CD,Hu];exact⟨by have:=HN.out;simp;omega,fun x hx=>by simpa using this x hx⟩);have HG:=hid U;have hc:=G.out;rw[Y]at hc;have h0:Cnts (cn ls) 16 (arr.setIfInBounds 0 (.int .i64 ((0:Nat):Int))):=hc.set (by simp[cn]) (fun l hl=>by simp[cn,hl]);have H0:=hid h0;have aj:=blk.cell 0;rw[hc.2 0 (by omega)]at aj;generalize cnt ls 0=y at aj;have J:=blk.set 0 (.int .i64 0);have ax:=J.frozen 0;have Q:(Tryz.prog.info? 356).map (·.size)=some (arr.setIfInBounds 0 (.int .i64 0)).size:=(by rw[LI];exact HI.out);have Z:=hid Q;have ae:=hid h0.one;clear Y U hc h0 Q;obtain⟨E,aa⟩:∃E,E=arr.setIfInBounds 0 (.int .i64 0):=⟨_,rfl⟩;have av:Hid (Cnts (cn ls) 16 E):=(by rw[aa];exact H0);have ag:Hid (E.all (·.oneCell')=true):=(by rw[aa];exact ae);rw[<-aa]at J Z;clear H0 ae aa
    go_wp2_with(first
     |(refine wpList_load_row rfl 356 (.tmp 2) rfl w.heap.size (by rfl) _ E (0,0) _ J Tryz.underlying356 rfl Z.out ?_)
     |(refine wpList_store_mid rfl 356 (.tmp 2) _ rfl w.heap.size 0 E (by rfl) (by rfl) (JV J) Z.out ag.out ?_))
    have L:=KF E.toList 0 _ J (fun j v hv=>by rw[Bq];simpa using hv);refine AN (results_cell_tmp rfl _ _ w.heap.size _ E _ (.bool true) rfl rfl L Tryz.underlying356 rfl Z.out) rfl ⟨E,cn ls,by rw[HG.out],av.out,fun l=> ?_,(fun _=>rfl),Jn (Aj _) _ _ _ (nZ (p:=⟨w.heap.size,0,none⟩) (Aj _) N)⟩;have h1:=Ie ls l;have:=HN.out;omega
 ·have M:BM ls=false:=by unfold BM;have:decide (ls.length<=300)=false:=(by simp;have:=HN.out;omega);rw[this,Hw]
  have HB:=hid M;clear M;have blk:Blk (w.alloc (.cells #[.int .i64 0, .int .i64 0, .int .i64 0, .int .i64 0, .int .i64 0, .int .i64 0, .int .i64 0, .int .i64 0, .int .i64 0, .int .i64 0, .int .i64 0, .int .i64 0, .int .i64 0, .int .i64 0, .int .i64 0, .int .i64 0] 356)) w.heap.size 356 _:=Blk.made _ _ _;go_enter Tryz.func274,Tryz.ntmps274
  go_wp2_with(first
   |(refine wpList_load_row rfl 356 (.tmp 2) rfl w.heap.size (by rfl) _ _ (0,0) _ blk Tryz.underlying356 rfl IH ?_)
   |(refine wpList_store_mid rfl 356 (.tmp 2) _ rfl w.heap.size 0 _ (by rfl) (by rfl) (JV blk) IH Cnts.zero.one ?_))
  have L:=KF _ 0 _ blk (fun j v hv=>by rw[Bq];simpa using hv);refine AN (results_cell_tmp rfl _ _ w.heap.size _ _ _ (.bool false) rfl rfl L Tryz.underlying356 rfl IH) rfl ⟨_,_,by rw[HB.out],Cnts.zero,fun l=>by omega,(fun h=>by rw[HB.out]at h;cases h),Jn (Aj _) _ _ _ (bZ (Ag _ _))⟩
end Canon
namespace Canon
open Go.RowKit Mem
def wsF(f:Nat->Nat):Nat->Nat
 |0=>0
 |l+1=>wsF f l+(if l=0 then 0 else f l)*2 ^ (15-l)
def wnF(f:Nat->Nat):Nat->Nat
 |0=>0
 |l+1=>wnF f l+(if l=0 then 0 else f l)
theorem LK(ls:List Nat):∀l,wsF (cn ls) l=Cj ls l
 |0=>rfl
 |l+1=>by rw[wsF,Cj,LK ls l];by_cases h:l=0<;>simp[h,cn]
theorem Nm(ls:List Nat):∀l,wnF (cn ls) l=Em ls l
 |0=>rfl
 |l+1=>by rw[wnF,Em,Nm ls l];by_cases h:l=0<;>simp[h,cn]
theorem OK(f:Nat->Nat)(hf:∀l,f l<=300):∀l,wsF f l<=l*9830400
 |0=>by simp[wsF]
 |l+1=>by have h1:=OK f hf l;have h2:=hf l;have h3:2 ^ (15-l)<=2 ^ 15:=Bu (by omega) (by omega);have h4:(if l=0 then 0 else f l)*2 ^ (15-l)<=300*32768:=Gq (by split<;>omega) h3;rw[wsF,EC];omega
theorem OA(f:Nat->Nat)(hf:∀l,f l<=300):∀l,wnF f l<=l*300
 |0=>by simp[wnF]
 |l+1=>by
  have h1:=OA f hf l;have h2:=hf l;have h3:(if l=0 then 0 else f l)<=300:=by split<;>omega
  rw[wnF,EC];omega
theorem W8(w:World)(arr:Array Value)(f:Nat->Nat)(hc:Cnts f 16 arr)(hf:∀l,f l<=300):
 Calls Tryz.prog 275 #[.agg arr] w fun e w'=>e= .returned (.tuple #[.int .i64 (wsF f 16:Nat), .int .i64 (wnF f 16:Nat)])/\Below w.heap.size w w':=by
 have HC:=hid hc;have HF:=hid hf;have G:=hc.1;have U:=hid G;clear hc hf G;go_enter Tryz.func275,Tryz.ntmps275;go_wp2_with fail;go_loopw [2,3,4] (fun s n i wr=>∃ (l S N:Nat),1<=l/\l<=16/\i= .int .i64 l/\s= .int .i64 S/\n= .int .i64 N/\Hid (S=wsF f l)/\Hid (N=wnF f l)/\S<=157286400/\N<=4800/\Blk wr w.heap.size 356 arr/\Below w.heap.size w wr) (fun _ _ i _=>16-(intOf i).toNat)
 case atStart=>exact⟨1,0,0,by omega,by omega,rfl,rfl,rfl,rfl,rfl,by omega,by omega,Blk.made _ _ _,bZ (Ag _ _)⟩
 case round=>
  obtain⟨l,S,N,Q,Z,rfl,rfl,rfl,hS,hN,bS,bN,blk,h⟩:=hrel;by_cases M:l<16
  ·have c0:=blk.cell l;rw[HC.out.2 l M]at c0;have Y:=HF.out l;have j:S+f l*2 ^ (15-l)=wsF f (l+1):=(by rw[wsF,Aa (by omega),hS.out]);have E:N+f l=wnF f (l+1):=(by rw[wnF,Aa (by omega),hN.out]);have b1:=OK f HF.out (l+1);have b2:=OA f HF.out (l+1);rw[<-j]at b1;rw[<-E]at b2;have L:=hid j;have J:=hid E;clear j E;generalize f l=y at *;have x0:(0:Int)<=(l:Int):=(by omega);have x1:(l:Int)<16:=(by omega);go_wp2_with fail;go_roundw
   case rel=>go_light;have b3:(l+1)*9830400<=16*9830400:=EN _ (by omega);have b4:(l+1)*300<=16*300:=EN _ (by omega);generalize hz:y*2 ^ (15-l)=z at *;have e1:wrap64 ((y:Int)*2 ^ (15-l))=(z:Int):=(by have:((y:Int)*2 ^ (15-l))=((z:Nat):Int):=(by rw[<-hz];simp);rw[this];exact IC _ ⟨by omega,by omega⟩);have e2:wrap64 ((S:Int)+(z:Int))=((S+z:Nat):Int):=(by rw[IC _ ⟨by omega,by omega⟩];simp);exact⟨l+1,S+z,N+y,by omega,by omega,by go_num,by rw[e1,e2],by go_num,L,J,by omega,by omega,blk,h⟩
   case measure=>go_light;simp[intOf];omega
  ·obtain rfl:l=16:=by omega
   go_wp2_with fail;go_ret2;go_light;exact⟨by rw[<-hS.out,<-hN.out];rfl,h⟩
theorem JL{ls:List Nat}(h:BM ls=true):ls.length<=300/\∀x∈ls,x<=15:=by unfold BM at h;rw[CD,Hu]at h;exact⟨by simpa using h.1,fun x hx=>by simpa using h.2 x hx⟩
def Fg(ls:List Nat):Int:=if okB ls=true then 0 else 7
theorem Ks{ls:List Nat}(h:BM ls=false):okB ls=false:=by unfold okB;unfold BM at h;rw[h,Hw]
theorem SK{ls:List Nat}(h:BM ls=true):okB ls=(decide (Em ls 16=0) || decide (Em ls 16=1/\cn ls 1=1) || decide (Cj ls 16=32768)):=by obtain⟨_,h2⟩:=JL h;unfold okB;unfold BM at h;rw[h,Bool.true_and,Kx ls h2,KO ls h2];rfl
theorem blk_over{g:Nat}{t:TypeId}:∀ (vs pre i:List Value) (w:World),i.length=vs.length->Blk w g t (pre++i).toArray->Blk (w.setCells g pre.length vs) g t (pre++vs).toArray
 | [],pre,i,w,hl,h=>by have:i= []:=FF hl;subst this;exact h
 |v :: vs,pre,[],w,hl,h=>by simp at hl
 |v :: vs,pre,x :: i,w,hl,h=>by
  have h1:=h.set pre.length v
  have e1:(pre++x :: i).toArray.setIfInBounds pre.length v=((pre++ [v])++i).toArray:=by
   apply Array.ext'
   simp
  rw[e1]at h1;have:=blk_over vs (pre++ [v]) i _ (by simpa using hl) h1;simpa[World.setCells]using this
theorem P5{g:Nat}{t:TypeId}{cs arr:Array Value}{w:World}(h:Blk w g t cs)(hs:arr.size=cs.size):Blk (w.setCells g 0 arr.toList) g t arr:=by have:=blk_over (g:=g) (t:=t) arr.toList [] cs.toList w (by simp[hs]) (by simpa using h);simpa using this
theorem PQ(ls:List Nat)(f:Nat->Nat)(hg:BM ls=true->f=cn ls):Fg ls=if BM ls=true/\(wnF f 16=0∨(wnF f 16=1/\f 1=1)∨wsF f 16=32768)then 0 else 7:=by
 unfold Fg;cases hb:BM ls
 ·rw[Ks hb];simp
 ·rw[SK hb,hg hb,LK,Nm];by_cases h1:Em ls 16=0<;>by_cases h2:(Em ls 16=1/\cn ls 1=1)<;>by_cases h3:Cj ls 16=32768<;>simp[h1,h2,h3]
theorem PD(w:World)(A:Option Addr)(n c:Nat)(ls:List Nat)(hn:ls.length=n)(hN:n<=9223372036854775807)(ha:Row w w.heap.size A n 1 (iZ .u8 ls)):
 Calls Tryz.prog 255 #[.slice A n c] w fun e w'=>e= .returned (.int .i64 (Fg ls))/\Below w.heap.size w w':=by
 have C:=hid (Qg w A n c ls hn hN ha);clear hn ha;go_enter Tryz.func255,Tryz.ntmps255;go_wp2_with fail;refine C.out.mono ?_;rintro e w1 ⟨arr,f,rfl,hc,hf,hg,E⟩;have j:arr.size=16:=hc.1;have N:=PQ ls f hg;have M:Blk (w1.alloc (.cells #[.int .i64 0, .int .i64 0, .int .i64 0, .int .i64 0, .int .i64 0, .int .i64 0, .int .i64 0, .int .i64 0, .int .i64 0, .int .i64 0, .int .i64 0, .int .i64 0, .int .i64 0, .int .i64 0, .int .i64 0, .int .i64 0] 356)) w1.heap.size 356 _:=Blk.made _ _ _;have z:=P5 (arr:=arr) M (by rw[j];rfl);have U:(w1.alloc (.cells #[.int .i64 0, .int .i64 0, .int .i64 0, .int .i64 0, .int .i64 0, .int .i64 0, .int .i64 0, .int .i64 0, .int .i64 0, .int .i64 0, .int .i64 0, .int .i64 0, .int .i64 0, .int .i64 0, .int .i64 0, .int .i64 0] 356)).there w1.heap.size 0 arr.size:=by rw[j];exact JV M
 have G:(Tryz.prog.info? 356).map (·.size)=some arr.size:=by rw[j];exact IH
 have h:Below w.heap.size w ((w1.alloc (.cells #[.int .i64 0, .int .i64 0, .int .i64 0, .int .i64 0, .int .i64 0, .int .i64 0, .int .i64 0, .int .i64 0, .int .i64 0, .int .i64 0, .int .i64 0, .int .i64 0, .int .i64 0, .int .i64 0, .int .i64 0, .int .i64 0] 356)).setCells w1.heap.size 0 arr.toList):=
  Jn E.size _ _ _ (kZ E.size E)
 have Q:=hid hc.one;have J:=hid G;have HC:=hid hc;have HF:=hid hf;have i:=hid N;clear j G hc hf N hg M;go_upto_region 2 with (refine wpList_store_mid rfl 356 (.tmp 3) (.tmp 10) rfl w1.heap.size 0 arr (by rfl) (by rfl) U J.out Q.out ?_);have aa:w1.heap.size<(World.heap ((w1.alloc (.cells #[.int .i64 0, .int .i64 0, .int .i64 0, .int .i64 0, .int .i64 0, .int .i64 0, .int .i64 0, .int .i64 0, .int .i64 0, .int .i64 0, .int .i64 0, .int .i64 0, .int .i64 0, .int .i64 0, .int .i64 0, .int .i64 0] 356)).setCells w1.heap.size 0 arr.toList)).size:=z.lt;clear U;generalize (w1.alloc (.cells #[.int .i64 0, .int .i64 0, .int .i64 0, .int .i64 0, .int .i64 0, .int .i64 0, .int .i64 0, .int .i64 0, .int .i64 0, .int .i64 0, .int .i64 0, .int .i64 0, .int .i64 0, .int .i64 0, .int .i64 0, .int .i64 0] 356)).setCells w1.heap.size 0 arr.toList=w2 at *;go_wp2_with(refine wpList_load_row rfl 356 (.tmp 3) rfl w1.heap.size (by rfl) _ arr (0,0) _ z Tryz.underlying356 rfl J.out ?_);refine(W8 w2 arr f HC.out HF.out).mono ?_;rintro e w3 ⟨rfl,Y⟩;have Z:=z.step Y;have L:Below w.heap.size w w3:=Cn Y h.size h;have c1:=Z.cell 1;rw[HC.out.2 1 (by omega)]at c1;generalize f 1=y at *;generalize wnF f 16=wn at *;generalize wsF f 16=ws at *;clear C E z h;cases hgood:BM ls
 ·rw[hgood]at i;go_wp2_with fail;go_ret;refine⟨JN ?_,L⟩;rw[i.out];simp
 ·rw[hgood]at i;go_wp2_with fail
  all_goals
   go_ret;refine⟨JN ?_,L⟩;rw[i.out];go_light;simp only[true_and]
   first|(rw[Ab (by omega)];done)|(rw[Aa (by omega)];done)|skip
  all_goals
   simp only[bne_iff_ne,ne_eq,bne_eq_false_iff_eq]at *
   first|(rw[Ab (by omega)];done)|(rw[Aa (by omega)];done)
end Canon
namespace Huff
def bit(bs:List Bool)(i:Nat):Nat:=if bs.getD i false then 1 else 0
def Nh(bs:List Bool)(k:Nat):Nat:=
 bit bs (8*k)*128+bit bs (8*k+1)*64+bit bs (8*k+2)*32+bit bs (8*k+3)*16+bit bs (8*k+4)*8+bit bs (8*k+5)*4+bit bs (8*k+6)*2+bit bs (8*k+7)
def bytesOf(bs:List Bool):List Nat:=(List.range ((bs.length+7) / 8)).map (Nh bs)
theorem bytesOf_length(bs:List Bool):(bytesOf bs).length=(bs.length+7) / 8:=by simp[bytesOf]
theorem Ev(bs:List Bool)(i:Nat):bit bs i<=1:=by unfold bit;split<;>omega
theorem Pp(bs:List Bool)(k:Nat):Nh bs k<=255:=by unfold Nh;have h0:=Ev bs (8*k);have h1:=Ev bs (8*k+1);have h2:=Ev bs (8*k+2);have h3:=Ev bs (8*k+3);have h4:=Ev bs (8*k+4);have h5:=Ev bs (8*k+5);have h6:=Ev bs (8*k+6);have h7:=Ev bs (8*k+7);omega
theorem O8{bs:List Bool}{i:Nat}(h:bs.length<=i):bit bs i=0:=by unfold bit;simp[List.getD_eq_getElem?_getD,List.getElem?_eq_none h]
end Huff
namespace Huff
open Canon
def msb(x n k:Nat):List Bool:=(List.range k).map fun j=>decide (x / 2 ^ (n-1-j) % 2=1)
theorem Qu(x n k:Nat):(msb x n k).length=k:=by simp[msb]
def word(ls:List Nat)(s:Nat):List Bool:=msb (code ls s) (ls.getD s 0) (ls.getD s 0)
def sZ(bs:List Bool)(i:Nat):Nat->Nat
 |0=>0
 |m+1=>2*sZ bs i m+bit bs (i+m)
theorem DZ(bs:List Bool)(i:Nat):∀m,sZ bs i m<2 ^ m
 |0=>by simp[sZ]
 |m+1=>by have h1:=DZ bs i m;have h2:=Ev bs (i+m);rw[sZ,En];omega
theorem Km(ls:List Nat):∀l,l<=15->(fst ls l+cn ls l)*2 ^ (15-l)=Cj ls (l+1)
 |0,_=>by simp[fst,cn,Cj]
 |l+1,h=>by
  have h1:=Km ls l (by omega);have e:15-l=(15-(l+1))+1:=by omega
  rw[Cj,<-h1,fst,e,En,EC];congr 1;rw[Nat.mul_comm 2,Nat.mul_assoc,Nat.mul_comm 2]
theorem TD(ls:List Nat)(l:Nat)(h:l<=15):fst ls l*2 ^ (15-l)=Cj ls l:=by have h1:=Km ls l h;rw[Cj,EC]at h1;omega
theorem JT(ls:List Nat){a:Nat}:∀ {b:Nat},a<=b->Cj ls a<=Cj ls b
 |0,h=>by
  obtain rfl:a=0:=by omega
  exact Aj _
 |b+1,h=>by
  by_cases e:a=b+1
  ·subst e;exact Aj _
  ·have:=JT ls (a:=a) (b:=b) (by omega);rw[Cj];omega
theorem Hg{ls:List Nat}(h:okB ls=true):ls.length<=300/\(∀x∈ls,x<=15)/\Cj ls 16<=32768:=by
 unfold okB at h;simp only[Bool.and_eq_true,Bool.or_eq_true,decide_eq_true_eq,List.all_eq_true]at h;obtain⟨⟨h1,h2⟩,h3⟩:=h;refine⟨h1,h2,?_⟩;have hk:=Kx ls h2;have hu:=KO ls h2;rcases h3 with (h3|⟨h3,h4⟩)|h3
 ·rw[h3]at hu;simp only[Em]at hu;simp only[Cj];have e0:cn ls 0=0:=by simp[cn]
  have e:∀l,l<16->cn ls l=0:=by intro l hl;have:l=0∨l=1∨l=2∨l=3∨l=4∨l=5∨l=6∨l=7∨l=8∨l=9∨l=10∨l=11∨l=12∨l=13∨l=14∨l=15:=(by omega);rcases this with rfl|rfl|rfl|rfl|rfl|rfl|rfl|rfl|rfl|rfl|rfl|rfl|rfl|rfl|rfl|rfl<;>omega
  simp[e]
 ·have e1:cn ls 1=1:=by unfold cn;rw[Aa (by omega),h4]
  rw[h3]at hu;simp only[Em]at hu;simp only[Cj];have e:∀l,l<16->l≠1->cn ls l=0:=by intro l hl i;have:l=0∨l=1∨l=2∨l=3∨l=4∨l=5∨l=6∨l=7∨l=8∨l=9∨l=10∨l=11∨l=12∨l=13∨l=14∨l=15:=(by omega);rcases this with rfl|rfl|rfl|rfl|rfl|rfl|rfl|rfl|rfl|rfl|rfl|rfl|rfl|rfl|rfl|rfl<;>omega
  simp[e,e1]
 ·omega
theorem M2{ls:List Nat}{s x:Nat}(hx:ls[s]? =some x):cnt (ls.take s) x+1<=cnt ls x:=by
 have h1:cnt (ls.take (s+1)) x=cnt (ls.take s) x+1:=by rw[Fa hx,Fc,Ab rfl]
 have h2:cnt (ls.take (s+1)) x<=cnt ls x:=by
  unfold cnt
  conv=>rhs;rw[<-Ix (s+1) ls,List.countP_append]
  omega
 omega
theorem Hl{ls:List Nat}{s x:Nat}(hx:ls[s]? =some x)(h0:x≠0):code ls s=fst ls x+cnt (ls.take s) x:=by unfold code;simp[List.getD_eq_getElem?_getD,hx,h0]
theorem Mw{ls:List Nat}{s x:Nat}(hx:ls[s]? =some x)(h0:x≠0)(h:x<=15):
 Cj ls x<=code ls s*2 ^ (15-x)/\(code ls s+1)*2 ^ (15-x)<=Cj ls (x+1):=by
 have h1:=Hl hx h0;have h2:=M2 hx;constructor
 ·rw[<-TD ls x h];exact EN _ (by omega)
 ·rw[<-Km ls x h];refine EN _ ?_;unfold cn;rw[Aa h0];omega
theorem OZ{ls:List Nat}(h:okB ls=true){s x:Nat}(hx:ls[s]? =some x)(h0:x≠0):code ls s<2 ^ x:=by
 obtain⟨_,h2,h3⟩:=Hg h;have i:=h2 x (BF hx);have h4:=(Mw hx h0 i).2;have h5:=JT ls (show x+1<=16 by omega);have h6:(code ls s+1)*2 ^ (15-x)<=2 ^ x*2 ^ (15-x):=by rw[<-Nat.pow_add,show x+(15-x)=15 by omega];omega
 exact Nat.le_of_mul_le_mul_right h6 (Ga _)
end Huff
namespace Huff
open Canon
def symsOf(ls:List Nat)(l:Nat):List Nat:=(List.range ls.length).filter fun s=>decide (ls.getD s 0=l)
theorem WP(l:Nat):symsOf [] l= []:=rfl
theorem LB(ls:List Nat)(x l:Nat):symsOf (ls++ [x]) l=symsOf ls l++if x=l then [ls.length]else []:=by
 unfold symsOf;rw[Ai,J2,Hn,List.filter_append];congr 1
 ·apply List.filter_congr
  intro s hs;have hs:=Eo.1 hs;simp[List.getD_eq_getElem?_getD,List.getElem?_append_left hs]
 ·by_cases h:x=l<;>simp[List.getD_eq_getElem?_getD,h]
theorem R7{α:Type}{p:List α->Prop}(h0:p [])(h1:∀l x,p l->p (l++ [x])):∀l,p l:=by
 intro l
 have:∀r:List α,p r.reverse:=by
  intro r
  induction r with
  |nil=>exact h0
  |cons x r ih=>rw[List.reverse_cons];exact h1 _ _ ih
 have h:=this l.reverse
 rwa [List.reverse_reverse]at h
theorem MA(l:Nat):∀ls:List Nat,(symsOf ls l).length=cnt ls l:=by
 apply R7
 ·rfl
 ·intro ls x ih;rw[LB,Fc,Ai,ih];split<;>rfl
theorem Qj{l:Nat}:∀ (ls:List Nat) (k s:Nat),(symsOf ls l)[k]? =some s->ls[s]? =some l/\cnt (ls.take s) l=k:=by
 apply R7 (p:=fun ls=>∀ (k s:Nat),(symsOf ls l)[k]? =some s->ls[s]? =some l/\cnt (ls.take s) l=k)
 ·intro k s h;simp[WP]at h
 ·intro ls x ih k s h;rw[LB,List.getElem?_append]at h;split at h
  ·obtain⟨h1,h2⟩:=ih k s h;have hs:=(BO.1 h1).1;rw[GT hs,List.take_append_of_le_length (by omega)];exact⟨h1,h2⟩
  ·rename_i hk;by_cases hx:x=l
   ·subst hx;rw[Ab rfl]at h;have h3:=(BO.1 h).1;simp only[List.length_singleton]at h3;have h4:k=(symsOf ls x).length:=(by omega);rw[h4,EL,List.getElem?_cons_zero]at h;injection h with h;subst h;refine⟨by simp,?_⟩;rw[List.take_left,h4,MA]
   ·rw[Aa hx]at h;simp at h
theorem Pu(ls:List Nat)(l:Nat){a b:Nat}(h:a<=b):cnt (ls.take a) l<=cnt (ls.take b) l:=by
 have:ls.take a=(ls.take b).take a:=by rw[List.take_take,Nat.min_eq_left h]
 rw[this];unfold cnt
 conv=>rhs;rw[<-Ix a (ls.take b),List.countP_append]
 omega
theorem Yv{ls:List Nat}{l s t:Nat}(hs:ls[s]? =some l)(ht:ls[t]? =some l)(h:cnt (ls.take s) l=cnt (ls.take t) l):s=t:=by
 have h1:cnt (ls.take (s+1)) l=cnt (ls.take s) l+1:=by rw[Fa hs,Fc,Ab rfl]
 have h2:cnt (ls.take (t+1)) l=cnt (ls.take t) l+1:=by rw[Fa ht,Fc,Ab rfl]
 by_cases h3:s<t
 ·have:=Pu ls l (show s+1<=t by omega);omega
 ·by_cases h4:t<s
  ·have:=Pu ls l (show t+1<=s by omega);omega
  ·omega
theorem Pe{ls:List Nat}{l k:Nat}(h:k<cnt ls l):∃s,(symsOf ls l)[k]? =some s/\ls[s]? =some l/\cnt (ls.take s) l=k:=by
 have h1:k<(symsOf ls l).length:=by rw[MA];exact h
 exact⟨_,AD h1,Qj ls k _ (AD h1)⟩
def hit(ls:List Nat)(X there s:Nat):Bool:=decide (ls.getD s 0≠0/\ls.getD s 0<=there/\X / 2 ^ (15-ls.getD s 0)=code ls s)
def Dm(ls:List Nat)(X there s:Nat):Bool:=decide (there<ls.getD s 0/\X / 2 ^ (15-there)=code ls s / 2 ^ (ls.getD s 0-there))
def Cf(ls:List Nat)(X there:Nat):Int×Int×Nat:=
 match (List.range ls.length).find? (hit ls X there)with
 |some s=>(s,0,ls.getD s 0)
 |none=>if(List.range ls.length).any (Dm ls X there)then(-1,1,0)else(-1,7,0)
theorem Fe{ls:List Nat}{X there s:Nat}:hit ls X there s=true↔∃x,ls[s]? =some x/\x≠0/\x<=there/\X / 2 ^ (15-x)=code ls s:=by
 unfold hit;rw[decide_eq_true_eq];constructor
 ·rintro⟨h1,h2,h3⟩
  have hs:s<ls.length:=by
   rcases Nat.lt_or_ge s ls.length with h|h
   ·exact h
   ·rw[Ar,Gr h]at h1;simp at h1
  have e:ls.getD s 0=ls[s]:=by simp[List.getD_eq_getElem?_getD,hs]
  rw[e]at h1 h2 h3;exact⟨_,AD hs,h1,h2,h3⟩
 ·rintro⟨x,h0,h1,h2,h3⟩;have e:ls.getD s 0=x:=by simp[List.getD_eq_getElem?_getD,h0]
  rw[e];exact⟨h1,h2,h3⟩
theorem M7{X c d:Nat}(hd:0<d)(h:X / d=c):c*d<=X/\X<(c+1)*d:=by subst h;exact⟨Nat.div_mul_le_self X d,by rw[EC,Nat.one_mul];exact Nat.lt_div_mul_add hd⟩
theorem Yg{ls:List Nat}(L:okB ls=true){X a b s t:Nat}(hs:hit ls X a s=true)(ht:hit ls X b t=true):s=t:=by
 obtain⟨x,hx,z,_,i⟩:=Fe.1 hs;obtain⟨y,hy,h,_,G⟩:=Fe.1 ht;obtain⟨_,J,_⟩:=Hg L;have j:=J x (BF hx);have E:=J y (BF hy);have h1:=M7 (Ga _) i;have h2:=M7 (Ga _) G;have h3:=Mw hx z j;have h4:=Mw hy h E;by_cases N:x<y
 ·have:=JT ls (show x+1<=y by omega);omega
 ·by_cases M:y<x
  ·have:=JT ls (show y+1<=x by omega);omega
  ·obtain rfl:x=y:=by omega
   have e:code ls s=code ls t:=(by rw[<-i,<-G]);rw[Hl hx z,Hl hy h]at e;exact Yv hx hy (by omega)
theorem RG{ls:List Nat}(i:okB ls=true){X there s x:Nat}(hx:ls[s]? =some x)(h:hit ls X there s=true):Cf ls X there=((s:Int),0,x):=by
 have hs:s<ls.length:=(BO.1 hx).1;unfold Cf
 have:(List.range ls.length).find? (hit ls X there)=some s:=by
  cases hf:(List.range ls.length).find? (hit ls X there)with
  |none=>have:=List.find?_eq_none.1 hf s (Eo.2 hs);rw[h]at this;exact absurd rfl this
  |some t=>rw[Yg i h (List.find?_some hf)]
 rw[this];simp[List.getD_eq_getElem?_getD,hx]
theorem O4{ls:List Nat}{X there:Nat}(h:∀s,hit ls X there s=false):Cf ls X there=if(List.range ls.length).any (Dm ls X there)then(-1,1,0)else(-1,7,0):=by unfold Cf;have:(List.range ls.length).find? (hit ls X there)=none:=List.find?_eq_none.2 (fun s _=>by rw[h s];simp);rw[this]
theorem Xh{ls:List Nat}{X l:Nat}(h0:l≠0){k:Nat}(hk:k<cn ls l)(hX:X / 2 ^ (15-l)=fst ls l+k):
 ∃s,(symsOf ls l)[k]? =some s/\ls[s]? =some l/\hit ls X l s=true:=by
 have h:k<cnt ls l:=by unfold cn at hk;rwa [Aa h0]at hk
 obtain⟨s,h1,h2,h3⟩:=Pe h;exact⟨s,h1,h2,Fe.2 ⟨l,h2,h0,Aj _,by rw[hX,Hl h2 h0,h3]⟩⟩
theorem Tq{ls:List Nat}{X l s:Nat}(h0:l≠0)(hs:ls[s]? =some l)(h:X / 2 ^ (15-l)=code ls s):fst ls l<=X / 2 ^ (15-l)/\X / 2 ^ (15-l)<fst ls l+cn ls l:=by have h1:=Hl hs h0;have h2:=M2 hs;unfold cn;rw[Aa h0];omega
theorem WZ{ls:List Nat}{X a b s:Nat}(h:a<=b)(hs:hit ls X a s=true):hit ls X b s=true:=by obtain⟨x,h1,h2,h3,h4⟩:=Fe.1 hs;exact Fe.2 ⟨x,h1,h2,by omega,h4⟩
theorem U3{ls:List Nat}{X l:Nat}(h:∀s,hit ls X l s=false)(h1:X / 2 ^ (15-(l+1))<fst ls (l+1)∨fst ls (l+1)+cn ls (l+1)<=X / 2 ^ (15-(l+1))):∀s,hit ls X (l+1) s=false:=by
 intro s;cases hh:hit ls X (l+1) s
 ·rfl
 ·obtain⟨x,hx,j,y,i⟩:=Fe.1 hh;by_cases e:x=l+1
  ·subst e;have:=Tq (by omega) hx i;omega
  ·have:=h s;rw[Fe.2 ⟨x,hx,j,by omega,i⟩]at this;cases this
theorem UK(ls:List Nat)(X:Nat):∀s,hit ls X 0 s=false:=by
 intro s;cases hh:hit ls X 0 s
 ·rfl
 ·obtain⟨x,_,h,i,_⟩:=Fe.1 hh;omega
theorem KM{ls:List Nat}{X there s:Nat}:Dm ls X there s=true↔∃x,ls[s]? =some x/\there<x/\X / 2 ^ (15-there)=code ls s / 2 ^ (x-there):=by
 unfold Dm;rw[decide_eq_true_eq];constructor
 ·rintro⟨h2,h3⟩
  have hs:s<ls.length:=by
   rcases Nat.lt_or_ge s ls.length with h|h
   ·exact h
   ·rw[Ar,Gr h]at h2;simp at h2
  have e:ls.getD s 0=ls[s]:=by simp[List.getD_eq_getElem?_getD,hs]
  rw[e]at h2 h3;exact⟨_,AD hs,h2,h3⟩
 ·rintro⟨x,h0,h2,h3⟩;have e:ls.getD s 0=x:=by simp[List.getD_eq_getElem?_getD,h0]
  rw[e];exact⟨h2,h3⟩
theorem Us{ls:List Nat}{x l k:Nat}(G:l<k)(h0:0<cn ls k)(h1:x*2 ^ (k-l)<fst ls k+cn ls k)(h2:fst ls k<x*2 ^ (k-l)+2 ^ (k-l)):
 ∃s,ls[s]? =some k/\code ls s / 2 ^ (k-l)=x:=by
 have i:k≠0:=by omega
 obtain⟨j,y,E⟩:∃j,j<cn ls k/\(fst ls k+j) / 2 ^ (k-l)=x:=by
  have hp:=Ga (k-l);generalize 2 ^ (k-l)=d at *;by_cases h:fst ls k<=x*d
  ·refine⟨x*d-fst ls k,by omega,?_⟩;rw[show fst ls k+(x*d-fst ls k)=x*d by omega];exact Nat.mul_div_cancel _ hp
  ·refine⟨0,h0,?_⟩;rw[CW];apply Nat.div_eq_of_lt_le
   ·omega
   ·rw[EC,Nat.one_mul];omega
 have z:j<cnt ls k:=by unfold cn at y;rwa [Aa i]at y
 obtain⟨s,_,h3,h4⟩:=Pe z;exact⟨s,h3,by rw[Hl h3 i,h4,E]⟩
theorem Ub{ls:List Nat}{x l k s:Nat}(j:l<k)(hs:ls[s]? =some k)(h:code ls s / 2 ^ (k-l)=x):
 0<cn ls k/\x*2 ^ (k-l)<fst ls k+cn ls k/\fst ls k<x*2 ^ (k-l)+2 ^ (k-l):=by
 have i:k≠0:=by omega
 have h1:=Hl hs i;have h2:=M2 hs;have h3:=M7 (Ga (k-l)) h;have e:cn ls k=cnt ls k:=by unfold cn;rw[Aa i]
 rw[EC,Nat.one_mul]at h3;omega
theorem Rt(bs:List Bool)(i m:Nat):∀d,sZ bs i (m+d) / 2 ^ d=sZ bs i m
 |0=>by simp
 |d+1=>by have h1:=Ev bs (i+(m+d));rw[<-Nat.add_assoc,sZ,En,Nat.mul_comm (2 ^ d) 2,<-Jo];rw[show(2*sZ bs i (m+d)+bit bs (i+(m+d))) / 2=sZ bs i (m+d) by omega];exact Rt bs i m d
end Huff
end Go.Proofs.YtbgoibedicbkjaaGreatDoor
