/- slices.Chunk of text -/
import Derived.Test.YtbgoibedicbkjaaGreatDoorZBodyLogs24
import Derived.RangeFuncNested
import Derived.RangeFuncBound
import Derived.RangeFuncCalls
import Derived.RangeFuncLeaves
import Derived.Shelf.Abstract
import Derived.Shelf.RegionOpen
import Derived.OwnWalkIn
import Derived.TacticsInMore
import Derived.LoopNIn
import Derived.LoopIn
namespace Go.Proofs.YtbgoibedicbkjaaGreatDoor
open Go.Lib (hid)
set_option maxRecDepth 100000
namespace Idx
open Go.RowKit Go.Shelf Mem Go.Proofs.YtbgoibedicbkjaaGreatDoor.Own Canon
def chV(b off size n k:Nat):Value:= .slice (some ⟨b,off+k*size,none⟩) (min size (n-k*size)) (min size (n-k*size))
theorem X5(w:World)(A:Option Addr)(n c size:Nat)(h1:1<=size)(h2:size<=1000):
 Calls Tryz.prog 148 #[.slice A n c, .int .i64 (size:Nat)] w fun e w'=>e= .returned (.func (.func 196) #[] #[.pointer (some ⟨w.heap.size,0,none⟩), .pointer (some ⟨w.heap.size+1,0,none⟩)])/\w'=(w.alloc (.cells #[.slice A n c] 33)).alloc (.cells #[.int .i64 (size:Nat)] 3):=by
 have y1:decide ((size:Int)<1)=false:=by simp;omega
 have h:decide (size<1)=false:=by simp;omega
 go_enter Tryz.func148,Tryz.ntmps148;go_wp2_with fail;go_ret;exact⟨rfl,rfl⟩
theorem WI(b h n c i e:Nat)(he:1<=e)(hn:i+e<=n)(hc:n<=c)(w:World):
 (Instr.slice 33 (.slice (some ⟨b,h,none⟩) n c) (some (.int .i64 (i:Int))) (some (.int .i64 ((i:Int)+(e:Int)))) (some (.int .i64 ((i:Int)+(e:Int))))).run Tryz.prog w= .ok (.slice (some ⟨b,h+i,none⟩) e e) w:=by
 have h0:Tryz.prog.elem 33=9:=by simp[Program.elem,Tryz.underlying33]
 have hs:(sizeOf 9).run Tryz.prog w= .ok 1 w:=by kernel_rfl
 rw[run_slice_lhm w 33 (some ⟨b,h,none⟩) n c (by rw[h0];exact Tryz.underlying33) .i64 .i64 .i64 (i:Int) ((i:Int)+(e:Int)) ((i:Int)+(e:Int)) (by omega) (by omega) (by omega) (by omega),h0,hs];have e1:((i:Int)+(e:Int)).toNat=i+e:=by omega
 show Result.ok (sliced _ _ _ _ _) w=_;rw[e1,Cl];unfold sliced;have e2:i+e-i=e:=by omega
 rw[Aa (by omega),e2];simp[EY]
def GM(N k:Nat):List (Fin N):=(List.finRange N).take k
theorem Yq{N k:Nat}(h:k<N):GM N (k+1)=GM N k++ [⟨k,h⟩]:=by unfold GM;rw[Ed,AD (by simpa using h)];simp
theorem TQ{N k:Nat}(h:k<=N):(GM N k).length=k:=by simp[GM];omega
theorem TE(N:Nat):(GM N N).map Fin.val=List.range N:=by
 apply List.ext_getElem
 ·simp[GM]
 ·intro i h1 h2;simp[GM]
set_option maxHeartbeats 2000000 in
theorem XR(m:Nat)(l Bs Bn n c size N:Nat)(A:Option Addr)(b j:Nat)(hA:0<n->A=some ⟨b,j,none⟩)(h1:1<=size)(h2:size<=1000)(hn:n<=1000000)(hc:n<=c)(hN:∀k,k<N↔k*size<n)
 (Kp:World->World->Prop)(Z:∀W W',Kp W W'->W'.cell? ⟨Bs,0,none⟩=W.cell? ⟨Bs,0,none⟩/\W'.cell? ⟨Bn,0,none⟩=W.cell? ⟨Bn,0,none⟩)(J Jx:List (Fin N)->World->Prop)(hJ:∀pre W,J pre W->J pre W.drew)
 (hY:∀pre (x:Fin N) W,J pre W->pre.length<N->YieldAt Fence.wide (m-1) Tryz.prog l #[chV b j size n x.val] W fun e W'=>(e= .returned (.bool true)/\J (pre++ [x]) W'/\Kp W W')∨(e= .returned (.bool false)/\Jx (pre++ [x]) W'))
 (W:World)(ai:W.cell? ⟨Bs,0,none⟩=some (.slice A n c))(ak:W.cell? ⟨Bn,0,none⟩=some (.int .i64 (size:Nat)))(h0:J [] W):
 CallsIn Fence.wide m Tryz.prog 196 #[.func (.yield l) #[] #[], .pointer (some ⟨Bs,0,none⟩), .pointer (some ⟨Bn,0,none⟩)] W fun e W'=>(∃v,e= .returned v)/\
  ((∃ys:List (Fin N),ys.map Fin.val=List.range N/\J ys W')∨(∃pre,True/\Jx pre W')):=by
 refine callsIn_of_wp Tryz.func196 rfl trivial ?_ rfl;simp only[Tryz.ntmps196,List.size_toArray,List.length_cons,List.length_nil,Nat.reduceAdd,Nat.reduceSub,Array.replicate_succ,Array.replicate_zero,List.push_toArray,List.append_toArray,List.nil_append,List.cons_append]
 gi_wp2
 gi_loopw [4,5] (fun iv _ wr=>∃k i:Nat,k<=N/\i<=1001000/\iv= .int .i64 i/\Hid (i=k*size)/\Hid (J (GM N k) wr)/\wr.cell? ⟨Bs,0,none⟩=some (.slice A n c)/\wr.cell? ⟨Bn,0,none⟩=some (.int .i64 (size:Nat)))
  (fun iv _ _=>n+size-(intOf iv).toNat)
 case atStart=>exact⟨0,0,AY _,by omega,rfl,by show 0=_;omega,h0,ai,ak⟩
 case round=>
  obtain⟨k,i,hk,hi,rfl,HI,HJ,ab,aa⟩:=hrel;by_cases af:i<n
  ·have y:k<N:=(hN k).2 (by rw[<-HI.out];exact af);obtain rfl:=hA (by omega);have gk:decide ((i:Int)<(n:Int))=true:=(by simp;omega);have ac:decide (i<n)=true:=(by simp;omega);have ks:=fun wx=>EG (P:=Tryz.prog) (t:=33) (s:=1) Tryz.underlying33 (fun _=>by kernel_rfl) (some ⟨b,j,none⟩) n c .i64 (i:Int) i rfl (by omega) wx;generalize vZ (some ⟨b,j,none⟩) i c 1=A1 at *;obtain⟨en,Q⟩:∃en,en=min size (n-i):=⟨_,rfl⟩;have aj:1<=en:=(by omega);have al:i+en<=n:=(by omega);have an:=fun wx=>WI b j n c i en aj al hc wx;obtain⟨fn,am,Y,body,hy,hR⟩:=hY _ ⟨k,y⟩ wr.drew (hJ _ _ HJ.out) (by rw[TQ hk];exact y);have E:chV b j size n k= .slice (some ⟨b,j+i,none⟩) en en:=(by unfold chV;rw[<-HI.out,Q]);rw[E]at hy;have G:wr.drew.cell? ⟨Bs,0,none⟩=some (.slice (some ⟨b,j,none⟩) n c):=ab;have M:wr.drew.cell? ⟨Bn,0,none⟩=some (.int .i64 (size:Nat)):=aa;have em:min (size:Int) ((n-i:Nat):Int)=(en:Int):=(by omega);have ag:Hid (i+size=(k+1)*size):=(by show _=_;rw[HI.out,EC,Nat.one_mul]);have ah:=hid (Yq y);clear E Q
   gi_wp2
   gi_region
   gi_wp2
   refine⟨(fun h=>by cases h),?_⟩;refine hR.mono ?_;rintro e W3 (⟨rfl,z,L⟩|⟨rfl,U⟩)
   ·obtain⟨q1,q2⟩:=Z _ _ L;have r1:=q1.trans G;have r2:=q2.trans M;rw[<-ah.out]at z;have ae:=hid z;clear z L q1 q2
    gi_wp2
    go_roundw
    case rel=>exact⟨k+1,i+size,by omega,by omega,by first|rfl|(simp;done)|go_num,ag.out,ae.out,r1,r2⟩
    case measure=>simp[intOf];omega
   ·gi_wp2
    refine AN (Ds rfl _ _ _) rfl ?_;exact⟨⟨_,rfl⟩, .inr ⟨_,trivial,U⟩⟩
  ·have gk:decide ((i:Int)<(n:Int))=false:=(by simp;omega);have ac:decide (i<n)=false:=by simp;omega
   have y:k=N:=by
    have:¬k<N:=fun h=>by have:=(hN k).1 h;have:=HI.out;omega
    omega
   subst y
   gi_wp2
   go_end0
   exact⟨⟨_,rfl⟩, .inl ⟨_,TE k,HJ.out⟩⟩
def KpC(B Bs:Nat)(W W':World):Prop:=∀k,k<B∨k=Bs∨k=Bs+1->W'.heap[k]? =W.heap[k]?
theorem XL{B Bs:Nat}{X Y Z:World}(h:KpC B Bs X Y)(k:KpC B Bs Y Z):KpC B Bs X Z:=fun j hj=>(k j hj).trans (h j hj)
theorem Xs{B Bs:Nat}{w:World}(hB:B<=w.heap.size)(hs:Bs+1<w.heap.size)(W:World)(l:Nat)(o o':Obj)(hl:w.heap.size<=l)(_:W.heap[l]? =some o)(_:o.isCells=false)(_:o.isWalk=false):KpC B Bs W (W.putObj l o'):=
 fun j hj=>World.putObj_heap_other (by omega)
theorem Ya(m B Bs n c size N:Nat)(A:Option Addr)(b i:Nat)(hA:0<n->A=some ⟨b,i,none⟩)(h1:1<=size)(h2:size<=1000)(hn:n<=1000000)(hc:n<=c)(hN:∀k,k<N↔k*size<n)
 (w:World)(hs:Bs+1<w.heap.size)(j:w.cell? ⟨Bs,0,none⟩=some (.slice A n c))(y:w.cell? ⟨Bs+1,0,none⟩=some (.int .i64 (size:Nat))):
 SeqStopsK Fence.wide m Tryz.prog 196 #[.pointer (some ⟨Bs,0,none⟩), .pointer (some ⟨Bs+1,0,none⟩)] (fun x:Fin N=>#[chV b i size n x.val]) (KpC B Bs) (fun ys=>ys.map Fin.val=List.range N) (fun _=>True) N w:=
 fun l J Jx W hW hJ _ hY h0=>
  XR m l Bs (Bs+1) n c size N A b i hA h1 h2 hn hc hN (KpC B Bs) (fun X Y h=>⟨World.cell?_of_block (a:=⟨Bs,0,none⟩) (h Bs (.inr (.inl rfl))),World.cell?_of_block (a:=⟨Bs+1,0,none⟩) (h (Bs+1) (.inr (.inr rfl)))⟩) J Jx
   (fun pre V h=>hJ pre V V.drew none h ⟨rfl,rfl,rfl,Aj _,fun _ _ _=>rfl⟩ (fun _ e=>by cases e)) hY W ((hW.cell (p:=⟨Bs,0,none⟩) (by show Bs<_;omega)).trans j) ((hW.cell (p:=⟨Bs+1,0,none⟩) hs).trans y) h0
end Idx
namespace Idx
open Go.RowKit Go.Shelf Mem Go.Proofs.YtbgoibedicbkjaaGreatDoor.Own Canon Sift
open NumPut Recs Crc Block
attribute [local go_sem] Oper.semAt_some
theorem J7{X Y:World}{row:Option Nat}(hg:X.grownBy Y row)(hr:∀r,row=some r->∃o:Obj,X.heap[r]? =some o/\o.isCells=false){g:Nat}{t:TypeId}{cs:Array Value}(h:Blk X g t cs):Blk Y g t cs:=
 (hg.block g h.lt (fun e=>by obtain⟨o,ho,hc⟩:=hr g e.symm;unfold Blk at h;rw[h]at ho;cases ho;cases hc)).trans h
theorem Py{X Y:World}{row:Option Nat}(hg:X.grownBy Y row)(hr:∀r,row=some r->∃o:Obj,X.heap[r]? =some o/\o.isCells=false){base s n:Nat}{e:TypeId}{v:Value}{xs:List Value}(h:X.ownsRow base e s v n xs):Y.ownsRow base e s v n xs:=
 dZ h fun y hy=>hg.block y (Ae h y hy).2 fun ee=>by
  obtain⟨o,ho,hc⟩:=hr y ee.symm;rcases h.2 with ⟨rfl,_⟩|⟨g,i,cur,rfl,_,hh,_⟩
  ·cases hy
  ·simp[Value.ownBlock]at hy;subst hy;rw[hh]at ho;cases ho;cases hc
theorem own_cells{X:World}{base s n j:Nat}{e:TypeId}{v:Value}{xs:List Value}{o:Obj}(h:X.ownsRow base e s v n xs)(hv:v.ownBlock=some j)(ho:X.heap[j]? =some o):o.isCells=true:=by
 rcases h.2 with ⟨rfl,_⟩|⟨g,i,cur,rfl,_,hh,_⟩
 ·cases hv
 ·simp[Value.ownBlock]at hv;subst hv;rw[hh]at ho;cases ho;rfl
theorem own_far{X:World}{base s n:Nat}{e:TypeId}{v:Value}{xs:List Value}(h:X.ownsRow base e s v n xs){g:Nat}(hg:v.ownBlock≠some g)(u:Value):(X.setCell ⟨g,0,none⟩ u).ownsRow base e s v n xs:=
 dZ h fun y hy=>AK _ _ _ y fun e=>hg (by rw[hy,e])
structure DS (base hb:Nat) (vs vn:Value) (H B:List Nat) (vH vB:Value) (W:World):Prop where
 kH:Blk W hb 22 #[vH]
 kB:Blk W (hb+1) 22 #[vB]
 kS:Blk W (hb+1+1) 33 #[vs]
 kN:Blk W (hb+1+1+1) 3 #[vn]
 oH:W.ownsRow base 5 1 vH H.length (cZ .u8 H)
 oB:W.ownsRow base 5 1 vB B.length (cZ .u8 B)
 ap:Apt vH vB
 gb:base<=hb
section
variable {base hb:Nat} {vs vn vH vB v':Value} {H B X:List Nat} {W w':World}
end
def DSt(base hb:Nat)(vs vn:Value)(H B:List Nat)(W:World):Prop:=∃vH vB,DS base hb vs vn H B vH vB W
theorem DSt.own{α:Type}(base hb:Nat)(vs vn:Value)(fH fB:α->List Nat):Own (fun(s:α) W=>DSt base hb vs vn (fH s) (fB s) W):=fun s X Y row hs hg hr=>by obtain⟨vH,vB,h⟩:=hs;exact⟨vH,vB,J7 hg hr h.kH,J7 hg hr h.kB,J7 hg hr h.kS,J7 hg hr h.kN,Py hg hr h.oH,Py hg hr h.oB,h.ap,h.gb⟩
end Idx
namespace Idx
open Go.RowKit Mem Go.Proofs.YtbgoibedicbkjaaGreatDoor.Own Canon Sift
open NumPut Recs
open Go.Proofs.YtbgoibedicbkjaaGreatDoor.Ef (Dp efO)
open Go.Proofs.YtbgoibedicbkjaaGreatDoor.Block (zZ)
open Go.Proofs.YtbgoibedicbkjaaGreatDoor.One (FrsAt FrsAt.step FrsAt.grown Gm I7)
theorem own_one{w:World}{base:Nat}{t:TypeId}{u:Value}(hb:base<=w.heap.size):(w.alloc (.cells #[u] t)).ownsRow base t 1 (.slice (some ⟨w.heap.size,0,none⟩) 1 1) 1 [u]:=
 ⟨rfl, .inr ⟨w.heap.size,1,#[u],rfl,hb,heap_alloc_new w _,Aj _,by unfold maxLen;omega,by simp,rfl⟩⟩
end Idx
end Go.Proofs.YtbgoibedicbkjaaGreatDoor
