/- slices.Chunk of text -/
import Derived.Test.YtfgdoknipbpfhaaGreatDoorZBodyIndex32
import Derived.Test.YtfgdoknipbpfhaaGreatDoorZBodyIndex36
import Derived.RangeFuncNested
import Derived.RangeFuncBound
import Derived.RangeFuncCalls
import Derived.RangeFuncLeaves
import Derived.Shelf.Abstract
import Derived.Shelf.RegionOpen
import Derived.OwnWalkIn
import Derived.TacticsInMore
import Derived.LoopNIn
import Derived.LoopIn
namespace Go.Proofs.YtfgdoknipbpfhaaGreatDoor
open Go.Proofs.Tryz
open Go.Lib (hid)
set_option maxRecDepth 100000
variable{B Bs N base g k n s:Nat}{X Y w:World}{e t:TypeId}{xs:List Value}
namespace Idx
open Go.RowKit Go.Shelf Mem Go.Proofs.YtfgdoknipbpfhaaGreatDoor.Own Canon
def chV(b off size n k:Nat):Value:= .slice (some ⟨b,off+k*size,none⟩) (min size (n-k*size)) (min size (n-k*size))
theorem gN(w:World)(A:Option Addr)(n c size:Nat)(h1:1<=size)(h2:size<=1000):
 Calls prog 170 #[.slice A n c, .int .i64 (size:Nat)] w fun e w'=>e= .returned (.func (.func 231) #[] #[.pointer (some ⟨w,0,none⟩), .pointer (some ⟨w.heap.size+1,0,none⟩)])/\w'=(w.alloc (.cells #[.slice A n c] 50)).alloc (.cells #[.int .i64 (size:Nat)] 3):=by
 have y1:=jb ((size:Int)<1)
 have h:=jb (size<1)
 go_enter func170,ntmps170;go_wp2_with fail;go_ret;exact⟨rfl,rfl⟩
theorem WD(b h n c i e:Nat)(he:1<=e)(hn:i+e<=n)(hc:n<=c)(w:World):
 (Instr.slice 50 (.slice (some ⟨b,h,none⟩) n c) (some (.int .i64 (i:Int))) (some (.int .i64 ((i:Int)+(e:Int)))) (some (.int .i64 ((i:Int)+(e:Int))))).run prog w= .ok (.slice (some ⟨b,h+i,none⟩) e e) w:=by
 have h0:prog.elem 50=9:=by simp[Program.elem,underlying50]
 have hs:(sizeOf 9).run prog w= .ok 1 w:=ni
 rw[run_slice_lhm w 50 (some ⟨b,h,none⟩) n c (by rw[h0];exact underlying50) .i64 .i64 .i64 (i:Int) ((i:Int)+(e:Int)) ((i:Int)+(e:Int)) nB nB nB nB,h0,hs];have e1:((i:Int)+(e:Int)).toNat=i+e:=nB
 show Result.ok (sliced _ _ _ _ _) w=_;rw[e1,Br];unfold sliced;have e2:i+e-i=e:=nB
 rw[Ae nB,e2];simp[Gx]
def Iu(N k:Nat):List (Fin N):=(List.finRange N).take k
theorem jE(h:k<N):Iu N (k+1)=Iu N k++ [⟨k,h⟩]:=by unfold Iu;rw[Ca,AD qh];simp
theorem fT(h:k<=N):(Iu N k).length=k:=by simp[Iu];omega
theorem eU(N:Nat):(Iu N N).map Fin.val=List.range N:=by
 apply List.ext_getElem
 ·simp[Iu]
 ·intro i h1 h2;simp[Iu]
set_option maxHeartbeats 2000000 in
theorem fP(m:Nat)(l Bs Bn n c size N:Nat)(A:Option Addr)(b j:Nat)(hA:0<n->A=some ⟨b,j,none⟩)(h1:1<=size)(h2:size<=1000)(hn:n<=1000000)(hc:n<=c)(hN:∀k,k<N↔k*size<n)
 (Kp:World->World->Prop)(ag:∀W W',Kp W W'->W'.cell? ⟨Bs,0,none⟩=W.cell? ⟨Bs,0,none⟩/\W'.cell? ⟨Bn,0,none⟩=W.cell? ⟨Bn,0,none⟩)(J Jx:List (Fin N)->World->Prop)(hJ:∀pre W,J pre W->J pre W.drew)
 (hY:∀pre (x:Fin N) W,J pre W->pre.length<N->YieldAt Fence.wide (m-1) prog l #[chV b j size n x.val] W fun e W'=>(e= .returned (.bool true)/\J (pre++ [x]) W'/\Kp W W')∨(e= .returned (.bool false)/\Jx (pre++ [x]) W'))
 (W:World)(ak:W.cell? ⟨Bs,0,none⟩=some (.slice A n c))(an:W.cell? ⟨Bn,0,none⟩=some (.int .i64 (size:Nat)))(h0:J [] W):
 CallsIn Fence.wide m prog 231 #[.func (.yield l) #[] #[], .pointer (some ⟨Bs,0,none⟩), .pointer (some ⟨Bn,0,none⟩)] W fun e W'=>(∃v,e= .returned v)/\
  ((∃ys:List (Fin N),ys.map Fin.val=List.range N/\J ys W')∨(∃pre,True/\Jx pre W')):=by
 refine callsIn_of_wp func231 rfl trivial ?_ rfl;simp only[ntmps231,List.size_toArray,List.length_cons,List.length_nil,Nat.reduceAdd,Nat.reduceSub,Array.replicate_succ,Array.replicate_zero,List.push_toArray,List.append_toArray,List.nil_append,List.cons_append]
 gi_wp2
 gi_loopw [4,5] (fun iv _ wr=>∃k i:Nat,k<=N/\i<=1001000/\iv= .int .i64 i/\Hid (i=k*size)/\Hid (J (Iu N k) wr)/\wr.cell? ⟨Bs,0,none⟩=some (.slice A n c)/\wr.cell? ⟨Bn,0,none⟩=some (.int .i64 (size:Nat)))
  (fun iv _ _=>n+size-(intOf iv).toNat)
 case atStart=>exact⟨0,0,Da _,nB,rfl,by show 0=_;omega,h0,ak,an⟩
 case round=>
  obtain⟨k,i,hk,hi,rfl,HI,HJ,al,am⟩:=hrel;by_cases af:i<n
  ·have E:k<N:=(hN k).2 (by rw[<-HI.out];exact af);obtain rfl:=hA nB;have gk:=ja ((i:Int)<n);have ai:=ja (i<n);have ks:=fun wx=>Gg (P:=prog) (t:=50) (s:=1) underlying50 (fun _=>by kernel_rfl) (some ⟨b,j,none⟩) n c .i64 (i:Int) i rfl nB wx;generalize Ba (some ⟨b,j,none⟩) i c 1=A1 at *;obtain⟨en,Q⟩:=jc (min size (n-i));have aj:1<=en:=nB;have ae:i+en<=n:=nB;have ar:=fun wx=>WD b j n c i en aj ae hc wx;obtain⟨fn,aq,aa,body,hy,hR⟩:=hY _ ⟨k,E⟩ wr.drew (hJ _ _ HJ.out) (by rw[fT hk];exact E);have Y:chV b j size n k= .slice (some ⟨b,j+i,none⟩) en en:=(by unfold chV;rw[<-HI.out,Q]);rw[Y]at hy;have L:wr.drew.cell? ⟨Bs,0,none⟩=some (.slice (some ⟨b,j,none⟩) n c):=al;have U:wr.drew.cell? ⟨Bn,0,none⟩=some (.int .i64 (size:Nat)):=am;have em:min (size:Int) ((n-i:Nat):Int)=(en:Int):=nB;have ac:Hid (i+size=(k+1)*size):=pL;have ah:=hid (jE E);clear Y Q
   gi_wp2
   gi_region
   gi_wp2
   refine⟨(fun h=>by cases h),?_⟩;refine hR.mono ?_;rintro e W3 (⟨rfl,G,M⟩|⟨rfl,Z⟩)
   ·obtain⟨q1,q2⟩:=ag _ _ M;have r1:=q1.trans L;have r2:=q2.trans U;rw[<-ah.out]at G;have ab:=hid G;clear G M q1 q2
    gi_wp2
    go_roundw
    case rel=>exact⟨k+1,i+size,nB,nB,by first|rfl|(simp;done)|go_num,ac.out,ab.out,r1,r2⟩
    case measure=>exact qc
   ·gi_wp2
    refine Df (FD rfl _ _ _) rfl ?_;exact⟨⟨_,rfl⟩, .inr ⟨_,trivial,Z⟩⟩
  ·have gk:=jb ((i:Int)<n);have ai:=jb (i<n)
   have E:k=N:=by
    have:¬k<N:=fun h=>by have:=(hN k).1 h;have:=HI.out;omega
    omega
   subst E
   gi_wp2
   go_end0
   exact⟨⟨_,rfl⟩, .inl ⟨_,eU k,HJ.out⟩⟩
def KpC(B Bs:Nat)(W W':World):Prop:=∀k,k<B∨k=Bs∨k=Bs+1->W'.heap[k]? =W.heap[k]?
theorem jH{Z:World}(h:KpC B Bs X Y)(k:KpC B Bs Y Z):KpC B Bs X Z:=fun j hj=>(k j hj).trans (h j hj)
theorem iT{B Bs:Nat}{w:World}(hB:B<=w.heap.size)(hs:Bs+1<w.heap.size)(W:World)(l:Nat)(o o':Obj)(hl:w.heap.size<=l)(_:W.heap[l]? =some o)(_:o.isCells=false)(_:o.isWalk=false):KpC B Bs W (W.putObj l o'):=
 fun j hj=>World.putObj_heap_other nB
theorem iO(m B Bs n c size N:Nat)(A:Option Addr)(b i:Nat)(hA:0<n->A=some ⟨b,i,none⟩)(h1:1<=size)(h2:size<=1000)(hn:n<=1000000)(hc:n<=c)(hN:∀k,k<N↔k*size<n)
 (w:World)(hs:Bs+1<w.heap.size)(j:w.cell? ⟨Bs,0,none⟩=some (.slice A n c))(E:w.cell? ⟨Bs+1,0,none⟩=some (.int .i64 (size:Nat))):
 SeqStopsK Fence.wide m prog 231 #[.pointer (some ⟨Bs,0,none⟩), .pointer (some ⟨Bs+1,0,none⟩)] (fun x:Fin N=>#[chV b i size n x.val]) (KpC B Bs) (fun ys=>ys.map Fin.val=List.range N) (fun _=>True) N w:=
 fun l J Jx W hW hJ _ hY h0=>
  fP m l Bs (Bs+1) n c size N A b i hA h1 h2 hn hc hN (KpC B Bs) (fun X Y h=>⟨World.cell?_of_block (a:=⟨Bs,0,none⟩) (h Bs (.inr (.inl rfl))),World.cell?_of_block (a:=⟨Bs+1,0,none⟩) (h (Bs+1) (.inr (.inr rfl)))⟩) J Jx
   (fun pre V h=>hJ pre V V.drew none h ⟨rfl,rfl,rfl,Am _,fun _ _ _=>rfl⟩ (fun _ e=>by cases e)) hY W ((hW.cell (p:=⟨Bs,0,none⟩) (by show Bs<_;omega)).trans j) ((hW.cell (p:=⟨Bs+1,0,none⟩) hs).trans E) h0
end Idx
namespace Idx
open Go.RowKit Go.Shelf Mem Go.Proofs.YtfgdoknipbpfhaaGreatDoor.Own Canon Sift
open NumPut Recs Crc Block
attribute [local go_sem] Oper.semAt_some
theorem MZ{row:Option Nat}(hg:X.grownBy Y row)(hr:∀r,row=some r->∃o:Obj,X.heap[r]? =some o/\o.isCells=false){cs:Array Value}(h:Blk X g t cs):Blk Y g t cs:=
 (hg.block g h.lt (fun e=>by obtain⟨o,ho,hc⟩:=hr g e.symm;unfold Blk at h;rw[h]at ho;cases ho;cases hc)).trans h
theorem Ra{row:Option Nat}(hg:X.grownBy Y row)(hr:∀r,row=some r->∃o:Obj,X.heap[r]? =some o/\o.isCells=false){v:Value}(h:X.ownsRow base e s v n xs):Y.ownsRow base e s v n xs:=
 eZ h fun y hy=>hg.block y (Ai h y hy).2 fun ee=>by
  obtain⟨o,ho,hc⟩:=hr y ee.symm;rcases h.2 with ⟨rfl,_⟩|⟨g,i,cur,rfl,_,hh,_⟩
  ·cases hy
  ·simp[Value.ownBlock]at hy;subst hy;rw[hh]at ho;cases ho;cases hc
theorem own_cells{j:Nat}{v:Value}{o:Obj}(h:X.ownsRow base e s v n xs)(hv:v.ownBlock=some j)(ho:X.heap[j]? =some o):o.isCells=true:=by
 rcases h.2 with ⟨rfl,_⟩|⟨g,i,cur,rfl,_,hh,_⟩
 ·cases hv
 ·simp[Value.ownBlock]at hv;subst hv;rw[hh]at ho;cases ho;rfl
theorem own_far{v:Value}(h:X.ownsRow base e s v n xs)(hg:v.ownBlock≠some g)(u:Value):(X.setCell ⟨g,0,none⟩ u).ownsRow base e s v n xs:=
 eZ h fun y hy=>Be _ _ _ y fun e=>hg pj
structure DS (base hb:Nat) (vs vn:Value) (H B:List Nat) (vH vB:Value) (W:World):Prop where
 kH:Blk W hb 28 #[vH]
 kB:Blk W (hb+1) 28 #[vB]
 kS:Blk W (hb+1+1) 50 #[vs]
 kN:Blk W (hb+1+1+1) 3 #[vn]
 oH:W.ownsRow base 5 1 vH H.length (bZ .u8 H)
 oB:W.ownsRow base 5 1 vB B.length (bZ .u8 B)
 ap:Apt vH vB
 gb:base<=hb
def DSt(base hb:Nat)(vs vn:Value)(H B:List Nat)(W:World):Prop:=∃vH vB,DS base hb vs vn H B vH vB W
theorem DSt.own{α:Type}(base hb:Nat)(vs vn:Value)(fH fB:α->List Nat):Own (fun(s:α) W=>DSt base hb vs vn (fH s) (fB s) W):=fun s X Y row hs hg hr=>by obtain⟨vH,vB,h⟩:=hs;exact⟨vH,vB,MZ hg hr h.kH,MZ hg hr h.kB,MZ hg hr h.kS,MZ hg hr h.kN,Ra hg hr h.oH,Ra hg hr h.oB,h.ap,h.gb⟩
end Idx
namespace Idx
open Go.RowKit Mem Go.Proofs.YtfgdoknipbpfhaaGreatDoor.Own Canon Sift
open NumPut Recs
open Ef (Cd efO)
open Block (wZ)
open Go.Proofs.YtfgdoknipbpfhaaGreatDoor.One (FrsAt FrsAt.step FrsAt.grown FrsAt.snoc Gv IW)
theorem own_one{u:Value}(hb:base<=w.heap.size):(w.alloc (.cells #[u] t)).ownsRow base t 1 (.slice (some ⟨w,0,none⟩) 1 1) 1 [u]:=
 ⟨rfl, .inr ⟨w.heap.size,1,#[u],rfl,hb,heap_alloc_new w _,Am _,qn,pR,rfl⟩⟩
end Idx
namespace Body
open Go.RowKit Mem Go.Proofs.YtfgdoknipbpfhaaGreatDoor.Own Canon NumPut Crc
open Recs Opts Idx
open Block (Cs Im wZ)
open Go.Proofs.YtfgdoknipbpfhaaGreatDoor.One (FrsAt FrsAt.step FrsAt.grown FrsAt.snoc Gv Hn NS Na NE IW KQ)
def Oy(o:Opt)(l:List Rec)(w:World)(e:Ending)(w':World):Prop:=
 ∃v,e= .returned (.tuple #[v,jd])/\w'.ownsRow w 5 1 v (H4 o l).length (bZ .u8 (H4 o l))/\Below w w w'
end Body
end Go.Proofs.YtfgdoknipbpfhaaGreatDoor
