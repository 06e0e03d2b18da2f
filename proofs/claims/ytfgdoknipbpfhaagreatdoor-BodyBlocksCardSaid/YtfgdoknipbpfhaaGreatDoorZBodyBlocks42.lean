/- slices.Chunk of text -/
import Derived.Test.YtfgdoknipbpfhaaGreatDoorZBodyBlocks26
import Derived.RangeFuncNested
import Derived.RangeFuncBound
import Derived.RangeFuncCalls
import Derived.RangeFuncLeaves
import Derived.Shelf.Abstract
import Derived.Shelf.RegionOpen
import Derived.OwnWalkIn
import Derived.TacticsInMore
import Derived.LoopNIn
import Derived.LoopIn
namespace Go.Proofs.YtfgdoknipbpfhaaGreatDoor
open Go.Proofs.Tryz
open Go.Lib (hid)
set_option maxHeartbeats 4000000
set_option maxRecDepth 100000
variable{B Bs N base g k l m n s:Nat}{X Y w:World}{e:TypeId}{xs:List Value}
namespace Idx
open Go.RowKit Go.Shelf Mem Go.Proofs.YtfgdoknipbpfhaaGreatDoor.Own Canon
def chV(b off size n k:Nat):Value:= .slice (some ⟨b,off+k*size,none⟩) (min size (n-k*size)) (min size (n-k*size))
theorem d5(w:World)(A:Option Addr)(n c size:Nat)(h1:1<=size)(h2:size<=1000):
 Calls prog 170 #[.slice A n c, .int .i64 (size:Nat)] w fun e w'=>e= .returned (.func (.func 231) #[] #[.pointer (some ⟨w,0,none⟩), .pointer (some ⟨w.heap.size+1,0,none⟩)])/\w'=(w.alloc (.cells #[.slice A n c] 50)).alloc (.cells #[.int .i64 (size:Nat)] 3):=by
 have y1:=ig ((size:Int)<1)
 have h:=ig (size<1)
 go_enter func170,ntmps170;go_wp2_with fail;go_ret;exact⟨rfl,rfl⟩
theorem YT(b h n c i e:Nat)(he:1<=e)(hn:i+e<=n)(hc:n<=c)(w:World):
 (Instr.slice 50 (.slice (some ⟨b,h,none⟩) n c) (some (.int .i64 (i:Int))) (some (.int .i64 ((i:Int)+(e:Int)))) (some (.int .i64 ((i:Int)+(e:Int))))).run prog w= .ok (.slice (some ⟨b,h+i,none⟩) e e) w:=by
 have h0:prog.elem 50=9:=by simp[Program.elem,underlying50]
 have hs:(sizeOf 9).run prog w= .ok 1 w:=mr
 rw[run_slice_lhm w 50 (some ⟨b,h,none⟩) n c (by rw[h0];exact underlying50) .i64 .i64 .i64 (i:Int) ((i:Int)+(e:Int)) ((i:Int)+(e:Int)) mw mw mw mw,h0,hs];have e1:((i:Int)+(e:Int)).toNat=i+e:=mw
 show Result.ok (sliced _ _ _ _ _) w=_;rw[e1,Br];unfold sliced;have e2:i+e-i=e:=mw
 rw[Aa mw,e2];simp[FY]
def Hs(N k:Nat):List (Fin N):=(List.finRange N).take k
theorem jR(h:k<N):Hs N (k+1)=Hs N k++ [⟨k,h⟩]:=by unfold Hs;rw[Cj,Az pf];simp
theorem fM(h:k<=N):(Hs N k).length=k:=by simp[Hs];omega
theorem eF(N:Nat):(Hs N N).map Fin.val=List.range N:=by
 apply List.ext_getElem
 ·simp[Hs]
 ·intro i h1 h2;simp[Hs]
theorem cY(m:Nat)(l Bs Bn n c size N:Nat)(A:Option Addr)(b j:Nat)(hA:0<n->A=some ⟨b,j,none⟩)(h1:1<=size)(h2:size<=1000)(hn:n<=1000000)(hc:n<=c)(hN:∀k,k<N↔k*size<n)
 (Kp:World->World->Prop)(ac:∀W W',Kp W W'->W'.cell? ⟨Bs,0,none⟩=W.cell? ⟨Bs,0,none⟩/\W'.cell? ⟨Bn,0,none⟩=W.cell? ⟨Bn,0,none⟩)(J Jx:List (Fin N)->World->Prop)(hJ:∀pre W,J pre W->J pre W.drew)
 (hY:∀pre (x:Fin N) W,J pre W->pre.length<N->YieldAt Fence.wide (m-1) prog l #[chV b j size n x.val] W fun e W'=>(e= .returned (.bool true)/\J (pre++ [x]) W'/\Kp W W')∨(e= .returned (.bool false)/\Jx (pre++ [x]) W'))
 (W:World)(aj:W.cell? ⟨Bs,0,none⟩=some (.slice A n c))(ag:W.cell? ⟨Bn,0,none⟩=some (.int .i64 (size:Nat)))(h0:J [] W):
 CallsIn Fence.wide m prog 231 #[.func (.yield l) #[] #[], .pointer (some ⟨Bs,0,none⟩), .pointer (some ⟨Bn,0,none⟩)] W fun e W'=>(∃v,e= .returned v)/\
  ((∃ys:List (Fin N),ys.map Fin.val=List.range N/\J ys W')∨(∃pre,True/\Jx pre W')):=by
 refine callsIn_of_wp func231 rfl trivial ?_ rfl;simp only[ntmps231,List.size_toArray,List.length_cons,List.length_nil,Nat.reduceAdd,Nat.reduceSub,Array.replicate_succ,Array.replicate_zero,List.push_toArray,List.append_toArray,List.nil_append,List.cons_append]
 gi_wp2
 gi_loopw [4,5] (fun iv _ wr=>∃k i:Nat,k<=N/\i<=1001000/\iv= .int .i64 i/\Hid (i=k*size)/\Hid (J (Hs N k) wr)/\wr.cell? ⟨Bs,0,none⟩=some (.slice A n c)/\wr.cell? ⟨Bn,0,none⟩=some (.int .i64 (size:Nat)))
  (fun iv _ _=>n+size-(intOf iv).toNat)
 case atStart=>exact⟨0,0,Cr _,mw,rfl,by show 0=_;omega,h0,aj,ag⟩
 case round=>
  obtain⟨k,i,hk,hi,rfl,HI,HJ,ak,ai⟩:=hrel;by_cases al:i<n
  ·have y:k<N:=(hN k).2 (by rw[<-HI.out];exact al);obtain rfl:=hA mw;have gk:=ic ((i:Int)<n);have ae:=ic (i<n);have ks:=fun wx=>FU (P:=prog) (t:=50) (s:=1) underlying50 (fun _=>by kernel_rfl) (some ⟨b,j,none⟩) n c .i64 (i:Int) i rfl mw wx;generalize AQ (some ⟨b,j,none⟩) i c 1=A1 at *;obtain⟨en,M⟩:=ii (min size (n-i));have aa:1<=en:=mw;have ah:i+en<=n:=mw;have an:=fun wx=>YT b j n c i en aa ah hc wx;obtain⟨fn,am,Y,body,hy,hR⟩:=hY _ ⟨k,y⟩ wr.drew (hJ _ _ HJ.out) (by rw[fM hk];exact y);have G:chV b j size n k= .slice (some ⟨b,j+i,none⟩) en en:=(by unfold chV;rw[<-HI.out,M]);rw[G]at hy;have L:wr.drew.cell? ⟨Bs,0,none⟩=some (.slice (some ⟨b,j,none⟩) n c):=ak;have U:wr.drew.cell? ⟨Bn,0,none⟩=some (.int .i64 (size:Nat)):=ai;have em:min (size:Int) ((n-i:Nat):Int)=(en:Int):=mw;have Z:Hid (i+size=(k+1)*size):=(by show _=_;rw[HI.out,Ez,Nat.one_mul]);have ab:=hid (jR y);clear G M
   gi_wp2
   gi_region
   gi_wp2
   refine⟨(fun h=>by cases h),?_⟩;refine hR.mono ?_;rintro e W3 (⟨rfl,z,E⟩|⟨rfl,Q⟩)
   ·obtain⟨q1,q2⟩:=ac _ _ E;have r1:=q1.trans L;have r2:=q2.trans U;rw[<-ab.out]at z;have af:=hid z;clear z E q1 q2
    gi_wp2
    go_roundw
    case rel=>exact⟨k+1,i+size,mw,mw,by first|rfl|(simp;done)|go_num,Z.out,af.out,r1,r2⟩
    case measure=>exact o7
   ·gi_wp2
    refine Cz (BJ rfl _ _ _) rfl ?_;exact⟨⟨_,rfl⟩, .inr ⟨_,trivial,Q⟩⟩
  ·have gk:=ig ((i:Int)<n);have ae:=ig (i<n)
   have y:k=N:=by
    have:¬k<N:=fun h=>by have:=(hN k).1 h;have:=HI.out;omega
    omega
   subst y
   gi_wp2
   go_end0
   exact⟨⟨_,rfl⟩, .inl ⟨_,eF k,HJ.out⟩⟩
def KpC(B Bs:Nat)(W W':World):Prop:=∀k,k<B∨k=Bs∨k=Bs+1->W'.heap[k]? =W.heap[k]?
theorem EZ{Z:World}(h:KpC B Bs X Y)(k:KpC B Bs Y Z):KpC B Bs X Z:=fun j hj=>(k j hj).trans (h j hj)
theorem Zu{B Bs:Nat}{w:World}(hB:B<=w.heap.size)(hs:Bs+1<w.heap.size)(W:World)(l:Nat)(o o':Obj)(hl:w.heap.size<=l)(_:W.heap[l]? =some o)(_:o.isCells=false)(_:o.isWalk=false):KpC B Bs W (W.putObj l o'):=
 fun j hj=>World.putObj_heap_other mw
theorem i7(m B Bs n c size N:Nat)(A:Option Addr)(b i:Nat)(hA:0<n->A=some ⟨b,i,none⟩)(h1:1<=size)(h2:size<=1000)(hn:n<=1000000)(hc:n<=c)(hN:∀k,k<N↔k*size<n)
 (w:World)(hs:Bs+1<w.heap.size)(y:w.cell? ⟨Bs,0,none⟩=some (.slice A n c))(j:w.cell? ⟨Bs+1,0,none⟩=some (.int .i64 (size:Nat))):
 SeqStopsK Fence.wide m prog 231 #[.pointer (some ⟨Bs,0,none⟩), .pointer (some ⟨Bs+1,0,none⟩)] (fun x:Fin N=>#[chV b i size n x.val]) (KpC B Bs) (fun ys=>ys.map Fin.val=List.range N) (fun _=>True) N w:=
 fun l J Jx W hW hJ _ hY h0=>
  cY m l Bs (Bs+1) n c size N A b i hA h1 h2 hn hc hN (KpC B Bs) (fun X Y h=>⟨World.cell?_of_block (a:=⟨Bs,0,none⟩) (h Bs (.inr (.inl rfl))),World.cell?_of_block (a:=⟨Bs+1,0,none⟩) (h (Bs+1) (.inr (.inr rfl)))⟩) J Jx
   (fun pre V h=>hJ pre V V.drew none h ⟨rfl,rfl,rfl,Ak _,fun _ _ _=>rfl⟩ (fun _ e=>by cases e)) hY W ((hW.cell (p:=⟨Bs,0,none⟩) (by show Bs<_;omega)).trans y) ((hW.cell (p:=⟨Bs+1,0,none⟩) hs).trans j) h0
end Idx
namespace Idx
open Go.RowKit Go.Shelf Mem Go.Proofs.YtfgdoknipbpfhaaGreatDoor.Own Canon Sift
open NumPut Recs Crc Block
attribute [local go_sem] Oper.semAt_some
theorem Mj{row:Option Nat}(hg:X.grownBy Y row)(hr:∀r,row=some r->∃o:Obj,X.heap[r]? =some o/\o.isCells=false){t:TypeId}{cs:Array Value}(h:Blk X g t cs):Blk Y g t cs:=
 (hg.block g h.lt (fun e=>by obtain⟨o,ho,hc⟩:=hr g e.symm;unfold Blk at h;rw[h]at ho;cases ho;cases hc)).trans h
theorem SF{row:Option Nat}(hg:X.grownBy Y row)(hr:∀r,row=some r->∃o:Obj,X.heap[r]? =some o/\o.isCells=false){v:Value}(h:X.ownsRow base e s v n xs):Y.ownsRow base e s v n xs:=
 eZ h fun y hy=>hg.block y (Aj h y hy).2 fun ee=>by
  obtain⟨o,ho,hc⟩:=hr y ee.symm;rcases h.2 with ⟨rfl,_⟩|⟨g,i,cur,rfl,_,hh,_⟩
  ·cases hy
  ·simp[Value.ownBlock]at hy;subst hy;rw[hh]at ho;cases ho;cases hc
theorem own_cells{j:Nat}{v:Value}{o:Obj}(h:X.ownsRow base e s v n xs)(hv:v.ownBlock=some j)(ho:X.heap[j]? =some o):o.isCells=true:=by
 rcases h.2 with ⟨rfl,_⟩|⟨g,i,cur,rfl,_,hh,_⟩
 ·cases hv
 ·simp[Value.ownBlock]at hv;subst hv;rw[hh]at ho;cases ho;rfl
theorem Ha(h:Below X X Y):KeepsOthers X Y:=⟨h.size,fun k _ hk _=>(h.block k (Array.getElem?_eq_some_iff.1 hk).1).trans hk⟩
theorem own_far{v:Value}(h:X.ownsRow base e s v n xs)(hg:v.ownBlock≠some g)(u:Value):(X.setCell ⟨g,0,none⟩ u).ownsRow base e s v n xs:=
 eZ h fun y hy=>AR _ _ _ y fun e=>hg nR
theorem KK{P:Program}{j:Array Oper}{o:Oper}{a:Act}{K:Act->World->Prop}{Q:Exit->Act->World->Prop}{E:Prop}(y:o.guard=none)(s x:Operand)(t:TypeId)
 (ho:o.op= .call {callee:= .builtin .append,args:=#[s,x],argTypes:=#[t,t] })
 (base:Nat)(e:TypeId)(i:TypeInfo)(z:Value)(size bytes:Nat)(ht:P.underlying t=some (.slice e))(hi:P.info? e=some i)(hz:i.zero=some z)
 (hsize:i.size=size)(hby:i.bytes=bytes)(hzs:z.cells.size=size)(hsz:0<size)
 (v:Value)(n:Nat)(xs:List Value)(hs:a.eval s=v)(hown:w.ownsRow base e size v n xs)
 (A:Option Addr)(k c:Nat)(news:List Value)(hx:a.eval x= .slice A k c)(hsrc:Src w A k c size news)(h1:∀u∈news,u.oneCell'=true)
 (h63:n+k<=maxLen)(hbytes:(n+k)*bytes<=140737488355328)(hbase:base<=w.heap.size)
 (h:∀A' c' w',w'.ownsRow base e size (.slice A' (n+k) c') (n+k) (xs++news)->w.grownBy w' v.ownBlock->((Value.slice A' (n+k) c').ownBlock=v.ownBlock∨(Value.slice A' (n+k) c').ownBlock=some w.heap.size)->K (a.put o.dst (.slice A' (n+k) c')) w'):
 if Region.wanted o (yielded j a.tmps)=true then Oper.wpIn (Fence.wide.inRound l) m P o a w K Q else E:=by
 have hw:Region.wanted o (yielded j a.tmps)=true:=by simp[Region.wanted,y]
 rw[Ab hw];obtain⟨v',w',hr,h2,h3,h5⟩:=Ld (P:=P) w base t o.type e i z size bytes ht hi hz hsize hby hzs hsz v n xs hown A k c news hsrc h1 h63 hbytes hbase;obtain⟨A',c',rfl⟩:=bZ h2;refine⟨fun _ _=>trivial,?_⟩;rw[Oper.semAt_eq _ _ _ (fun c hc=>by rw[ho]at hc;cases hc)];unfold execOp;simp only[ho,resolve,invoke,builtin,Sem.run_bind,Sem.run_pure,Result.andThen_ok,List.map_toArray,List.map_cons,List.map_nil,hs,hx,hr];exact h A' c' w' h2 h3 h5
theorem K0{P:Program}{j:Array Oper}{rest:List Oper}{o:Oper}{a:Act}{Q:Exit->Act->World->Prop}(y:o.guard=none)(s x:Operand)(t:TypeId)
 (ho:o.op= .call {callee:= .builtin .append,args:=#[s,x],argTypes:=#[t,t] })
 (base:Nat)(e:TypeId)(i:TypeInfo)(z:Value)(size bytes:Nat)(ht:P.underlying t=some (.slice e))(hi:P.info? e=some i)(hz:i.zero=some z)
 (hsize:i.size=size)(hby:i.bytes=bytes)(hzs:z.cells.size=size)(hsz:0<size)
 (v:Value)(n:Nat)(xs:List Value)(hs:a.eval s=v)(hown:w.ownsRow base e size v n xs)
 (A:Option Addr)(k c:Nat)(news:List Value)(hx:a.eval x= .slice A k c)(hsrc:Src w A k c size news)(h1:∀u∈news,u.oneCell'=true)
 (h63:n+k<=maxLen)(hbytes:(n+k)*bytes<=140737488355328)(hbase:base<=w.heap.size)
 (h:∀A' c' w',w'.ownsRow base e size (.slice A' (n+k) c') (n+k) (xs++news)->w.grownBy w' v.ownBlock->((Value.slice A' (n+k) c').ownBlock=v.ownBlock∨(Value.slice A' (n+k) c').ownBlock=some w.heap.size)->wpListIn (Fence.wide.inRound l) m P j Q rest (a.put o.dst (.slice A' (n+k) c')) w'):
 wpListIn (Fence.wide.inRound l) m P j Q (o :: rest) a w:=by
 refine wpListIn_plain y fun K hK=> ?_;obtain⟨v',w',hr,h2,h3,h5⟩:=Ld (P:=P) w base t o.type e i z size bytes ht hi hz hsize hby hzs hsz v n xs hown A k c news hsrc h1 h63 hbytes hbase;obtain⟨A',c',rfl⟩:=bZ h2;refine⟨fun _ _=>trivial,?_⟩;rw[Oper.semAt_eq _ _ _ (fun c hc=>by rw[ho]at hc;cases hc)];unfold execOp;simp only[ho,resolve,invoke,builtin,Sem.run_bind,Sem.run_pure,Result.andThen_ok,List.map_toArray,List.map_cons,List.map_nil,hs,hx,hr];exact hK _ _ (h A' c' w' h2 h3 h5)
structure DS (base hb:Nat) (vs vn:Value) (H B:List Nat) (vH vB:Value) (W:World):Prop where
 kH:Blk W hb 28 #[vH]
 kB:Blk W (hb+1) 28 #[vB]
 kS:Blk W (hb+1+1) 50 #[vs]
 kN:Blk W (hb+1+1+1) 3 #[vn]
 oH:W.ownsRow base 5 1 vH H.length (cZ .u8 H)
 oB:W.ownsRow base 5 1 vB B.length (cZ .u8 B)
 ap:Apt vH vB
 gb:base<=hb
section
variable {base hb:Nat} {vs vn vH vB v':Value} {H B X:List Nat} {W w':World}
theorem DS.step(h:DS base hb vs vn H B vH vB W)(b:Below W W w'):DS base hb vs vn H B vH vB w':=
 ⟨h.kH.step b,h.kB.step b,h.kS.step b,h.kN.step b,eZ h.oH fun y hy=>b.block y (Aj h.oH y hy).2,eZ h.oB fun y hy=>b.block y (Aj h.oB y hy).2,h.ap,h.gb⟩
theorem DS.keeps(h:DS base hb vs vn H B vH vB W)(b:Below W W w'):KpC base (hb+1+1) W w':=fun k hk=>by refine b.block k ?_;have:=h.kS.lt;have:=h.kN.lt;have:=h.gb;omega
theorem DS.head(h:DS base hb vs vn H B vH vB W)(g:W.grownBy w' vH.ownBlock)(o:w'.ownsRow base 5 1 v' (H.length+X.length) (cZ .u8 H++cZ .u8 X))(t:v'.ownBlock=vH.ownBlock∨v'.ownBlock=some W.heap.size):
 DS base hb vs vn (H++X) B v' vB (w'.setCell ⟨hb,0,none⟩ v')/\KeepsOthers W (w'.setCell ⟨hb,0,none⟩ v')/\KpC base (hb+1+1) W (w'.setCell ⟨hb,0,none⟩ v')/\Below base W (w'.setCell ⟨hb,0,none⟩ v'):=by
 have n1:some hb≠vH.ownBlock:=AU (gZ h.oH h.kH ip);have n2:some (hb+1)≠vH.ownBlock:=AU (gZ h.oH h.kB ip);have n3:some (hb+1+1)≠vH.ownBlock:=AU (gZ h.oH h.kS ip);have n4:some (hb+1+1+1)≠vH.ownBlock:=AU (gZ h.oH h.kN ip);have k1:=h.kH.grown g n1;have k2:=h.kB.grown g n2;have k3:=h.kS.grown g n3;have k4:=h.kN.grown g n4;obtain⟨i,E⟩:=GJ h.oB h.ap g t;have z:=h.gb;have l1:=h.kS.lt;have l2:=h.kN.lt;have ho:w'.ownsRow base 5 1 v' (H++X).length (cZ .u8 (H++X)):=by rw[Ae,show cZ .u8 (H++X)=cZ .u8 H++cZ .u8 X by simp[cZ]];exact o
 refine⟨⟨by simpa using k1.set 0 v',k2.far (by show hb+1≠hb;omega) _,k3.far (by show hb+1+1≠hb;omega) _,k4.far (by show hb+1+1+1≠hb;omega) _,own_far ho (gZ ho k1 ip) _,own_far i (gZ i k1 ip) _,E,z⟩,?_,fun k hk=> ?_,?_⟩
 ·exact(KeepsOthers.of_grownBy g fun j o e hj=>own_cells h.oH e hj).trans (KeepsOthers.setCell _ _ _)
 ·refine(AR _ _ _ k (by show k≠hb;omega)).trans (g.block k mw fun e=> ?_);rcases hk with hk|hk|hk
  ·have:=(Aj h.oH k e.symm).1;omega
  ·exact n3 (hk ▸ e)
  ·exact n4 (hk ▸ e)
 ·exact((Ag base W).grown g mw fun y hy=>(Aj h.oH y hy).1).setCell (p:=⟨hb,0,none⟩) z _
theorem DS.body(h:DS base hb vs vn H B vH vB W)(g:W.grownBy w' vB.ownBlock)(o:w'.ownsRow base 5 1 v' (B.length+X.length) (cZ .u8 B++cZ .u8 X))(t:v'.ownBlock=vB.ownBlock∨v'.ownBlock=some W.heap.size):
 DS base hb vs vn H (B++X) vH v' (w'.setCell ⟨hb+1,0,none⟩ v')/\KeepsOthers W (w'.setCell ⟨hb+1,0,none⟩ v')/\KpC base (hb+1+1) W (w'.setCell ⟨hb+1,0,none⟩ v')/\Below base W (w'.setCell ⟨hb+1,0,none⟩ v'):=by
 have n1:some hb≠vB.ownBlock:=AU (gZ h.oB h.kH ip);have n2:some (hb+1)≠vB.ownBlock:=AU (gZ h.oB h.kB ip);have n3:some (hb+1+1)≠vB.ownBlock:=AU (gZ h.oB h.kS ip);have n4:some (hb+1+1+1)≠vB.ownBlock:=AU (gZ h.oB h.kN ip);have k1:=h.kH.grown g n1;have k2:=h.kB.grown g n2;have k3:=h.kS.grown g n3;have k4:=h.kN.grown g n4;obtain⟨i,E⟩:=GJ h.oH h.ap.symm g t;have z:=h.gb;have l1:=h.kS.lt;have l2:=h.kN.lt;have ho:w'.ownsRow base 5 1 v' (B++X).length (cZ .u8 (B++X)):=by rw[Ae,show cZ .u8 (B++X)=cZ .u8 B++cZ .u8 X by simp[cZ]];exact o
 refine⟨⟨k1.far (by show hb≠hb+1;omega) _,by simpa using k2.set 0 v',k3.far (by show hb+1+1≠hb+1;omega) _,k4.far (by show hb+1+1+1≠hb+1;omega) _,own_far i (gZ i k2 ip) _,own_far ho (gZ ho k2 ip) _,E.symm,z⟩,?_,fun k hk=> ?_,?_⟩
 ·exact(KeepsOthers.of_grownBy g fun j o e hj=>own_cells h.oB e hj).trans (KeepsOthers.setCell _ _ _)
 ·refine(AR _ _ _ k (by show k≠hb+1;omega)).trans (g.block k mw fun e=> ?_);rcases hk with hk|hk|hk
  ·have:=(Aj h.oB k e.symm).1;omega
  ·exact n3 (hk ▸ e)
  ·exact n4 (hk ▸ e)
 ·exact((Ag base W).grown g mw fun y hy=>(Aj h.oB y hy).1).setCell (p:=⟨hb+1,0,none⟩) (by show base<=hb+1;omega) _
end
def DSt(base hb:Nat)(vs vn:Value)(H B:List Nat)(W:World):Prop:=∃vH vB,DS base hb vs vn H B vH vB W
theorem DSt.own{α:Type}(base hb:Nat)(vs vn:Value)(fH fB:α->List Nat):Own (fun(s:α) W=>DSt base hb vs vn (fH s) (fB s) W):=fun s X Y row hs hg hr=>by obtain⟨vH,vB,h⟩:=hs;exact⟨vH,vB,Mj hg hr h.kH,Mj hg hr h.kB,Mj hg hr h.kS,Mj hg hr h.kN,SF hg hr h.oH,SF hg hr h.oB,h.ap,h.gb⟩
theorem iI(w:World)(size:Nat)(A:Option Addr)(n c:Nat)(ls:List Str)(hn:ls.length=n)(h1:1<=size)(h2:size<=64)(hN:n<=20000)(ca:n<=c)(hm:FM ls=true)(ha:Row w w A n 1 (GE ls)):
 Calls prog 104 #[.int .i64 (size:Nat), .slice A n c] w fun e w'=>∃v,e= .returned (.tuple #[v,ij])/\w'.ownsRow w 5 1 v (C8 size ls).length (cZ .u8 (C8 size ls))/\Below w w w':=by
 have HN:=hid hn;have HA:=hid ha;have DM:=hid (a7 w A n c ls hn mw ha);rw[hm]at DM;have DN:=hid (fun wx=>FW wx n mw);have DC:=hid (fun wx=>d5 wx A n c size h1 mw);have y1:=ig ((size:Int)<1)
 have cm:=ig (size<1)
 have y2:=ig ((64:Int)<size)
 have cj:=ig (64<size)
 have u1:IntKind.u64.wrap (n:Int)=(n:Int):=m9
 obtain⟨b,Y,bl⟩:∃b Y,0<n->A=some ⟨b,Y,none⟩:=by
  by_cases h:0<n
  ·obtain⟨b,Y,hA,_,_⟩:=ha h;exact⟨b,Y,fun _=>hA⟩
  ·exact⟨0,0,fun h'=>absurd h' h⟩
 have bt:=hid bl;have HM:=hid hm;clear hn ha hm bl;refine(callsIn_wide (n:=3)).1 (callsIn_of_wp_marks func104 rfl trivial (wpIn_wide.2 ?_) rfl);simp only[ntmps104,List.size_toArray,List.length_cons,List.length_nil,Nat.reduceAdd,Nat.reduceSub,Array.replicate_succ,Array.replicate_zero,List.push_toArray,List.append_toArray,List.nil_append,List.cons_append];go_wp2_with fail;refine DM.out.mono ?_;rintro e w1 ⟨rfl,rfl⟩;obtain⟨w,rfl⟩:=ii w1;clear DM;go_wp2_with fail;refine(DN.out _).mono ?_;rintro e w2 ⟨v2,rfl,bc,bj⟩;obtain⟨A2,c2,rfl⟩:=bZ bc;have bq:=hid bc;have bb:=hid bj;clear bc bj DN;go_wp2_with fail;refine(DC.out _).mono ?_;rintro e w3 ⟨rfl,rfl⟩;clear DC;go_wp2_with fail;have be:Blk ((((w2.alloc (.cells #[.slice A2 (fZ n).length c2] 28)).alloc (.cells #[()] 28)).alloc (.cells #[.slice A n c] 50)).alloc (.cells #[.int .i64 (size:Nat)] 3)) w2 28 #[.slice A2 (fZ n).length c2]:=(((Blk.made _ _ _).alloc _).alloc _).alloc _;have bh:Blk ((((w2.alloc (.cells #[.slice A2 (fZ n).length c2] 28)).alloc (.cells #[()] 28)).alloc (.cells #[.slice A n c] 50)).alloc (.cells #[.int .i64 (size:Nat)] 3)) (w2.heap.size+1) 28 #[()]:=((Blk.made_at _ _ _ oK).alloc _).alloc _;have a4:Blk ((((w2.alloc (.cells #[.slice A2 (fZ n).length c2] 28)).alloc (.cells #[()] 28)).alloc (.cells #[.slice A n c] 50)).alloc (.cells #[.int .i64 (size:Nat)] 3)) (w2.heap.size+1+1) 50 #[.slice A n c]:=(Blk.made_at _ _ _ oK).alloc _;have a3:Blk ((((w2.alloc (.cells #[.slice A2 (fZ n).length c2] 28)).alloc (.cells #[()] 28)).alloc (.cells #[.slice A n c] 50)).alloc (.cells #[.int .i64 (size:Nat)] 3)) (w2.heap.size+1+1+1) 3 #[.int .i64 (size:Nat)]:=Blk.made_at _ _ _ oK;have a5:Below w2 w2 ((((w2.alloc (.cells #[.slice A2 (fZ n).length c2] 28)).alloc (.cells #[()] 28)).alloc (.cells #[.slice A n c] 50)).alloc (.cells #[.int .i64 (size:Nat)] 3)):=aZ (aZ (aZ (aZ (Ag _ _))));have b3:((((w2.alloc (.cells #[.slice A2 (fZ n).length c2] 28)).alloc (.cells #[()] 28)).alloc (.cells #[.slice A n c] 50)).alloc (.cells #[.int .i64 (size:Nat)] 3)).heap.size=w2.heap.size+4:=oK
 generalize ((((w2.alloc (.cells #[.slice A2 (fZ n).length c2] 28)).alloc (.cells #[()] 28)).alloc (.cells #[.slice A n c] 50)).alloc (.cells #[.int .i64 (size:Nat)] 3))=W0 at *;have bg:W0.ownsRow w 5 1 (.slice A2 (fZ n).length c2) (fZ n).length (cZ .u8 (fZ n)):=eZ bq.out (fun y hy=>a5.block y (Aj bq.out y hy).2);have bm:Below w w W0:=uZ a5 bb.out.size bb.out;have b4:=bb.out.size;obtain⟨C,hC⟩:∃C:Nat->List Nat,C=fun k=>rZ (CO size ls k):=⟨_,rfl⟩
 refine wpIn_wide.1 (wpIn_rangeFunc_ownF (F:=Fence.wide) (n:=3) rfl mw (gf:=231) (lb:=#[.pointer (some ⟨w2.heap.size+1+1,0,none⟩), .pointer (some ⟨w2.heap.size+1+1+1,0,none⟩)]) rfl trivial (enters_of func231 mr rfl)
  (i7 2 w (w2.heap.size+1+1) n c size (nCh size n) A b Y bt.out h1 mw mw ca (fun k=>OR h1) W0 mw (a4.cell 0) (a3.cell 0)) EZ (Zu mw mw) (Ag _ _) (fun _=>rfl)
  (fun pre W=>DSt w w2 (.slice A n c) (.int .i64 (size:Nat)) (fZ n++pre.flatMap (fun x=>fZ (C x.val).length)) (pre.flatMap (fun x=>C x.val)) W/\Below w w W)
  (fun _ _ _=>False)
  (OwnFrom.and (Own.from (DSt.own _ _ _ _ _ _) _) (ownFrom_below (Ak _) mw))
  (fun _ _ _ _ _ hs _ _=>hs)
  ⟨⟨_,_,be,bh,a4,a3,by simpa using bg,AI _ _ _ _,(fun _ _ h=>by cases h),b4⟩,bm⟩
  (fun x=>{tmps:=#[.int .i64 size, .slice A n c,undef,undef, .slice none 0 0, .int .i64 0, .pointer (some ⟨w2,0,none⟩), .pointer (some ⟨w2.heap.size+1,0,none⟩),chV b Y size n x.val,undef, .int .i64 size, .bool false, .bool false, .int .i64 size, .bool false, .bool false, .bool false, .slice A n c, .bool true, .bool false, .bool false, .slice A n c, .int .i64 n, .int .u64 n, .slice A2 (fZ n).length c2, .slice A n c, .int .i64 size, .func (.func 231) #[] #[.pointer (some ⟨w2.heap.size+1+1,0,none⟩), .pointer (some ⟨w2.heap.size+1+1+1,0,none⟩)],chV b Y size n x.val,undef,undef,undef,undef,undef,undef,undef,undef,undef,undef,undef,undef,undef,undef,undef],defers:= [] }) ?assign ?body ?done ?stop)
 case assign=>
  intro l x W K hK
  gi_wp2
  exact hK
 case body=>
  rintro l pre ⟨k,hk⟩ W ⟨⟨vH,vB,hS⟩,hB⟩ hlen;obtain⟨j0,aj,al,ak,am⟩:=info_parts Ee;have b7:=(OR (n:=n) (k:=k) h1).1 hk;have aq:∀s∈ls,s.length<=25:=fun s hs=>(Jc HM.out s hs).2;obtain⟨i,hi⟩:=ii (k*size);rw[<-hi]at b7;obtain⟨z,hz⟩:=ii (min size (n-i));have bn:(CO size ls k).length=z:=by rw[Nr,HN.out,<-hi,hz]
  have bk:chV b Y size n k= .slice (some ⟨b,Y+i,none⟩) z z:=by unfold chV;rw[<-hi,hz]
  have a6:Row W W (some ⟨b,Y+i,none⟩) z 1 (GE (CO size ls k)):=fun _=>by obtain⟨b',ce,a1,b1,hc⟩:=(HA.out.below hB) mw;rw[bt.out mw]at a1;injection a1 with a1;injection a1 with e1 e2;subst e1 e2;refine⟨b,Y+i,rfl,Eh b1 hB.size,fun r j hr hj=> ?_⟩;have h:=hc (i+r) j mw hj;rw[show Y+i+(r*1+j)=Y+((i+r)*1+j) by omega,h];unfold GE CO;rw[<-hi];congr 3;rw[Am,Am,Gd,Ik,Ab mw]
  have DB:=hid (lG W (some ⟨b,Y+i,none⟩) z z (CO size ls k) bn mw mw (Ak _) (fun s hs=>aq s (Nt hs)) a6);rw[show rZ (CO size ls k)=C k by rw[hC]]at DB;unfold OZ at DB;have cl:(C k).length<=1984:=by rw[hC];exact Lx aq h2 k
  have cg:(fZ n++pre.flatMap (fun x=>fZ (C x.val).length)).length<=10+10*pre.length:=by
   rw[Ae];have h0:=qZ (x:=n) mw
   have h9:∀q:List (Fin (nCh size n)),(q.flatMap (fun x=>fZ (C x.val).length)).length<=10*q.length:=fun q=>by
    induction q with
    |nil=>simp
    |cons x t ih=>have hx:(C x.val).length<=1984:=(by rw[hC];exact Lx aq h2 x.val);have:=qZ (x:=(C x.val).length) mw;rw[Cm,Ae,AD];omega
   have:=h9 pre;omega
  have ci:(pre.flatMap (fun x=>C x.val)).length<=1984*pre.length:=by
   have h9:∀q:List (Fin (nCh size n)),(q.flatMap (fun x=>C x.val)).length<=1984*q.length:=fun q=>by
    induction q with
    |nil=>simp
    |cons x t ih=>have hx:(C x.val).length<=1984:=(by rw[hC];exact Lx aq h2 x.val);rw[Cm,Ae,AD];omega
   exact h9 pre
  have cf:=LX (n:=n) h1;have ay:Hid (fZ n++(pre++ [(⟨k,hk⟩:Fin (nCh size n))]).flatMap (fun x=>fZ (C x.val).length)=fZ n++pre.flatMap (fun x=>fZ (C x.val).length)++fZ (C k).length):=oA
  have ax:Hid ((pre++ [(⟨k,hk⟩:Fin (nCh size n))]).flatMap (fun x=>C x.val)=pre.flatMap (fun x=>C x.val)++C k):=oA
  have a9:chV b Y size n (⟨k,hk⟩:Fin (nCh size n)).val= .slice (some ⟨b,Y+i,none⟩) z z:=bk;rw[a9];generalize fZ n++pre.flatMap (fun x=>fZ (C x.val).length)=H0 at *;generalize pre.flatMap (fun x=>C x.val)=B0 at *;have a0:=hid (fun wx=>FW wx (C k).length mw);have cd:=qZ (x:=(C k).length) mw;have u3:IntKind.u64.wrap ((C k).length:Int)=((C k).length:Int):=m9
  generalize C k=CK at *;generalize fZ CK.length=NC at *;obtain⟨AH,cH,rfl⟩:=bZ hS.oH;obtain⟨AB,cB,rfl⟩:=bZ hS.oB;have HS:=hid hS;have N:=hid hB;clear bk a9 a6 bn hC be bh a4 a3 a5 b3 bg bm aq hS hB hi hz
  gi_wp2_with fail
  refine⟨trivial,(CallsIn.inRound l (callsIn_wide.2 DB.out)).mono ?_⟩;rintro e w5 ⟨v5,rfl,bf,bd⟩;obtain⟨A5,c5,rfl⟩:=bZ bf;have Z:=hid bf;have L:=hid bd;have av:=hid (HS.out.step bd);have r0:=av.out.kH.ia 0;have r1:=av.out.kH.frozen 0;have az:Hid (∀wx,Below w5 w5 wx->DS w w2 (.slice A n c) (.int .i64 (size:Nat)) H0 B0 (.slice AH H0.length cH) (.slice AB B0.length cB) wx):=fun wx h=>av.out.step h;clear bf bd DB
  gi_wp2_with fail
  refine wpIn_region_any mr ?_
  change wpAnyIn _ _ _ _ _ _ _ _ _ (World.drew _)
  refine wpAnyIn_ready (rs:= [0,1]) mr oK (AllReadyIn.cons rfl (fun K hK=> ?_) (AllReadyIn.cons rfl (fun K hK=> ?_) AllReadyIn.nil))
  ·go_simp;refine hK _ _ ?_;clear hK K
   refine wpAnyIn_ready (rs:= [1]) mr oK (AllReadyIn.cons rfl (fun K hK=> ?_) AllReadyIn.nil);go_simp;refine hK _ _ ?_;clear hK K;refine wpAnyIn_ready (rs:= [2]) mr oK (AllReadyIn.cons rfl (fun K hK=> ?_) AllReadyIn.nil);go_simp;refine hK _ _ ?_;clear hK K;refine wpAnyIn_ready (rs:= [3]) mr oK (AllReadyIn.cons rfl (fun K hK=> ?_) AllReadyIn.nil);go_simp;refine hK _ _ ?_;clear hK K;refine wpAnyIn_ready (rs:= [4]) mr oK (AllReadyIn.cons rfl (fun K hK=> ?_) AllReadyIn.nil);go_simp;refine⟨trivial,(CallsIn.inRound l (callsIn_wide.2 (a0.out _))).mono ?_⟩;rintro e w6 ⟨v6,rfl,ah,ar⟩;obtain⟨A6,c6,rfl⟩:=bZ ah;have b6:Below w5 w5 w6:=uZ ar (Ak _) (Ar (Ag _ _));have S6:=az.out w6 b6;have ag:w.heap.size<=w6.heap.size:=AK (AK N.out.size L.out.size) b6.size;have p0:=S6.kH.ia 0;have ac:=Dq ah;go_simp;refine hK _ _ ?_;clear hK K;refine wpAnyIn_ready (rs:= [5]) mr oK (AllReadyIn.cons rfl (fun K hK=> ?_) AllReadyIn.nil);refine KK rfl (.tmp 31) (.tmp 35) 28 rfl w 5 j0 _ 1 1 underlying28 aj al ak am rfl ip _ _ _ mz S6.oH _ _ _ _ mz ac (Ci _ _) pm mw ag ?_;intro A7 c7 w7 E M G;have S7:=hid (S6.head M E G);have B7:=S6.kH.grown M (AU (gZ S6.oH S6.kH ip));have q0:=B7.ia 0;have q1:=B7.frozen 0;simp only[Act.put];refine hK _ _ ?_;clear hK K;refine wpAnyIn_ready (rs:= [6]) mr oK (AllReadyIn.cons rfl (fun K hK=> ?_) AllReadyIn.nil);go_simp;refine hK _ _ ?_;clear hK K;refine wpAnyIn_done mr ?_ _;have S8:=S7.out.1;have ae:=eZ Z.out (fun y hy=>b6.block y (Aj Z.out y hy).2);have aa:Apt (.slice AH H0.length cH) (.slice A5 CK.length c5):=(IY Z.out (Ak _) (fun x hx=>(Aj HS.out.oH x hx).2)).symm;have U:=(GJ ae aa M G).1;have ab:=own_far U (gZ U B7 ip) (.slice A7 (H0.length+NC.length) c7);have au:w.heap.size<=(w7.setCell ⟨w2,0,none⟩ (.slice A7 (H0.length+NC.length) c7)).heap.size:=AK ag S7.out.2.2.2.size;have t2:=S8.kB.ia 0;have an:=Dq ab;have J:=hid S8;clear M G E ae U ab aa B7 q0 q1 p0 r0 r1 S6 ac
   gi_wp2_with (gi_at_builtin;refine K0 rfl (.tmp 37) (.tmp 38) 28 rfl w 5 j0 _ 1 1 underlying28 aj al ak am rfl ip _ _ _ mz J.out.oB _ _ _ _ mz an (Ci _ _) pm mw au ?_;intro A9 c9 w9 Q ai af;have S9:=hid (J.out.body ai Q af);have B9:=J.out.kB.grown ai (AU (gZ J.out.oB J.out.kB ip));have t0:=B9.ia 0;have t1:=B9.frozen 0)
   have K9:Hid (KeepsOthers W (w9.setCell ⟨w2.heap.size+1,0,none⟩ (.slice A9 (B0.length+CK.length) c9))/\KpC w (w2.heap.size+1+1) W (w9.setCell ⟨w2.heap.size+1,0,none⟩ (.slice A9 (B0.length+CK.length) c9))/\Below w w (w9.setCell ⟨w2.heap.size+1,0,none⟩ (.slice A9 (B0.length+CK.length) c9))):=
    ⟨(Ha L.out).trans ((Ha b6).trans (S7.out.2.1.trans S9.out.2.1)),EZ (HS.out.keeps L.out) (EZ (av.out.keeps b6) (EZ S7.out.2.2.1 S9.out.2.2.1)),(((N.out.trans (L.out.mono N.out.size)).trans (b6.mono (AK N.out.size L.out.size))).trans S7.out.2.2.2).trans S9.out.2.2.2⟩
   exact⟨K9.out.1,K9.out.2.1,⟨_,_,nF⟩,K9.out.2.2⟩
  ·go_simp;refine hK _ _ ?_;clear hK K
   refine wpAnyIn_ready (rs:= [0,2]) mr oK (AllReadyIn.cons rfl (fun K hK=> ?_) (AllReadyIn.cons rfl (fun K hK=> ?_) AllReadyIn.nil))
   ·go_simp;refine hK _ _ ?_;clear hK K
    refine wpAnyIn_ready (rs:= [2]) mr oK (AllReadyIn.cons rfl (fun K hK=> ?_) AllReadyIn.nil);go_simp;refine hK _ _ ?_;clear hK K;refine wpAnyIn_ready (rs:= [3]) mr oK (AllReadyIn.cons rfl (fun K hK=> ?_) AllReadyIn.nil);go_simp;refine hK _ _ ?_;clear hK K;refine wpAnyIn_ready (rs:= [4]) mr oK (AllReadyIn.cons rfl (fun K hK=> ?_) AllReadyIn.nil);go_simp;refine⟨trivial,(CallsIn.inRound l (callsIn_wide.2 (a0.out _))).mono ?_⟩;rintro e w6 ⟨v6,rfl,ah,ar⟩;obtain⟨A6,c6,rfl⟩:=bZ ah;have b6:Below w5 w5 w6:=uZ ar (Ak _) (Ar (Ag _ _));have S6:=az.out w6 b6;have ag:w.heap.size<=w6.heap.size:=AK (AK N.out.size L.out.size) b6.size;have p0:=S6.kH.ia 0;have ac:=Dq ah;go_simp;refine hK _ _ ?_;clear hK K;refine wpAnyIn_ready (rs:= [5]) mr oK (AllReadyIn.cons rfl (fun K hK=> ?_) AllReadyIn.nil);refine KK rfl (.tmp 31) (.tmp 35) 28 rfl w 5 j0 _ 1 1 underlying28 aj al ak am rfl ip _ _ _ mz S6.oH _ _ _ _ mz ac (Ci _ _) pm mw ag ?_;intro A7 c7 w7 E M G;have S7:=hid (S6.head M E G);have B7:=S6.kH.grown M (AU (gZ S6.oH S6.kH ip));have q0:=B7.ia 0;have q1:=B7.frozen 0;simp only[Act.put];refine hK _ _ ?_;clear hK K;refine wpAnyIn_ready (rs:= [6]) mr oK (AllReadyIn.cons rfl (fun K hK=> ?_) AllReadyIn.nil);go_simp;refine hK _ _ ?_;clear hK K;refine wpAnyIn_done mr ?_ _;have S8:=S7.out.1;have ae:=eZ Z.out (fun y hy=>b6.block y (Aj Z.out y hy).2);have aa:Apt (.slice AH H0.length cH) (.slice A5 CK.length c5):=(IY Z.out (Ak _) (fun x hx=>(Aj HS.out.oH x hx).2)).symm;have U:=(GJ ae aa M G).1;have ab:=own_far U (gZ U B7 ip) (.slice A7 (H0.length+NC.length) c7);have au:w.heap.size<=(w7.setCell ⟨w2,0,none⟩ (.slice A7 (H0.length+NC.length) c7)).heap.size:=AK ag S7.out.2.2.2.size;have t2:=S8.kB.ia 0;have an:=Dq ab;have J:=hid S8;clear M G E ae U ab aa B7 q0 q1 p0 r0 r1 S6 ac
    gi_wp2_with (gi_at_builtin;refine K0 rfl (.tmp 37) (.tmp 38) 28 rfl w 5 j0 _ 1 1 underlying28 aj al ak am rfl ip _ _ _ mz J.out.oB _ _ _ _ mz an (Ci _ _) pm mw au ?_;intro A9 c9 w9 Q ai af;have S9:=hid (J.out.body ai Q af);have B9:=J.out.kB.grown ai (AU (gZ J.out.oB J.out.kB ip));have t0:=B9.ia 0;have t1:=B9.frozen 0)
    have K9:Hid (KeepsOthers W (w9.setCell ⟨w2.heap.size+1,0,none⟩ (.slice A9 (B0.length+CK.length) c9))/\KpC w (w2.heap.size+1+1) W (w9.setCell ⟨w2.heap.size+1,0,none⟩ (.slice A9 (B0.length+CK.length) c9))/\Below w w (w9.setCell ⟨w2.heap.size+1,0,none⟩ (.slice A9 (B0.length+CK.length) c9))):=
     ⟨(Ha L.out).trans ((Ha b6).trans (S7.out.2.1.trans S9.out.2.1)),EZ (HS.out.keeps L.out) (EZ (av.out.keeps b6) (EZ S7.out.2.2.1 S9.out.2.2.1)),(((N.out.trans (L.out.mono N.out.size)).trans (b6.mono (AK N.out.size L.out.size))).trans S7.out.2.2.2).trans S9.out.2.2.2⟩
    exact⟨K9.out.1,K9.out.2.1,⟨_,_,nF⟩,K9.out.2.2⟩
   ·go_simp;refine hK _ _ ?_;clear hK K
    refine wpAnyIn_ready (rs:= [0,3]) mr oK (AllReadyIn.cons rfl (fun K hK=> ?_) (AllReadyIn.cons rfl (fun K hK=> ?_) AllReadyIn.nil))
    ·go_simp;refine hK _ _ ?_;clear hK K
     refine wpAnyIn_ready (rs:= [3]) mr oK (AllReadyIn.cons rfl (fun K hK=> ?_) AllReadyIn.nil);go_simp;refine hK _ _ ?_;clear hK K;refine wpAnyIn_ready (rs:= [4]) mr oK (AllReadyIn.cons rfl (fun K hK=> ?_) AllReadyIn.nil);go_simp;refine⟨trivial,(CallsIn.inRound l (callsIn_wide.2 (a0.out _))).mono ?_⟩;rintro e w6 ⟨v6,rfl,ah,ar⟩;obtain⟨A6,c6,rfl⟩:=bZ ah;have b6:Below w5 w5 w6:=uZ ar (Ak _) (Ar (Ag _ _));have S6:=az.out w6 b6;have ag:w.heap.size<=w6.heap.size:=AK (AK N.out.size L.out.size) b6.size;have p0:=S6.kH.ia 0;have ac:=Dq ah;go_simp;refine hK _ _ ?_;clear hK K;refine wpAnyIn_ready (rs:= [5]) mr oK (AllReadyIn.cons rfl (fun K hK=> ?_) AllReadyIn.nil);refine KK rfl (.tmp 31) (.tmp 35) 28 rfl w 5 j0 _ 1 1 underlying28 aj al ak am rfl ip _ _ _ mz S6.oH _ _ _ _ mz ac (Ci _ _) pm mw ag ?_;intro A7 c7 w7 E M G;have S7:=hid (S6.head M E G);have B7:=S6.kH.grown M (AU (gZ S6.oH S6.kH ip));have q0:=B7.ia 0;have q1:=B7.frozen 0;simp only[Act.put];refine hK _ _ ?_;clear hK K;refine wpAnyIn_ready (rs:= [6]) mr oK (AllReadyIn.cons rfl (fun K hK=> ?_) AllReadyIn.nil);go_simp;refine hK _ _ ?_;clear hK K;refine wpAnyIn_done mr ?_ _;have S8:=S7.out.1;have ae:=eZ Z.out (fun y hy=>b6.block y (Aj Z.out y hy).2);have aa:Apt (.slice AH H0.length cH) (.slice A5 CK.length c5):=(IY Z.out (Ak _) (fun x hx=>(Aj HS.out.oH x hx).2)).symm;have U:=(GJ ae aa M G).1;have ab:=own_far U (gZ U B7 ip) (.slice A7 (H0.length+NC.length) c7);have au:w.heap.size<=(w7.setCell ⟨w2,0,none⟩ (.slice A7 (H0.length+NC.length) c7)).heap.size:=AK ag S7.out.2.2.2.size;have t2:=S8.kB.ia 0;have an:=Dq ab;have J:=hid S8;clear M G E ae U ab aa B7 q0 q1 p0 r0 r1 S6 ac
     gi_wp2_with (gi_at_builtin;refine K0 rfl (.tmp 37) (.tmp 38) 28 rfl w 5 j0 _ 1 1 underlying28 aj al ak am rfl ip _ _ _ mz J.out.oB _ _ _ _ mz an (Ci _ _) pm mw au ?_;intro A9 c9 w9 Q ai af;have S9:=hid (J.out.body ai Q af);have B9:=J.out.kB.grown ai (AU (gZ J.out.oB J.out.kB ip));have t0:=B9.ia 0;have t1:=B9.frozen 0)
     have K9:Hid (KeepsOthers W (w9.setCell ⟨w2.heap.size+1,0,none⟩ (.slice A9 (B0.length+CK.length) c9))/\KpC w (w2.heap.size+1+1) W (w9.setCell ⟨w2.heap.size+1,0,none⟩ (.slice A9 (B0.length+CK.length) c9))/\Below w w (w9.setCell ⟨w2.heap.size+1,0,none⟩ (.slice A9 (B0.length+CK.length) c9))):=
      ⟨(Ha L.out).trans ((Ha b6).trans (S7.out.2.1.trans S9.out.2.1)),EZ (HS.out.keeps L.out) (EZ (av.out.keeps b6) (EZ S7.out.2.2.1 S9.out.2.2.1)),(((N.out.trans (L.out.mono N.out.size)).trans (b6.mono (AK N.out.size L.out.size))).trans S7.out.2.2.2).trans S9.out.2.2.2⟩
     exact⟨K9.out.1,K9.out.2.1,⟨_,_,nF⟩,K9.out.2.2⟩
    ·go_simp;refine hK _ _ ?_;clear hK K
     refine wpAnyIn_ready (rs:= [0,4]) mr oK (AllReadyIn.cons rfl (fun K hK=> ?_) (AllReadyIn.cons rfl (fun K hK=> ?_) AllReadyIn.nil))
     ·go_simp;refine hK _ _ ?_;clear hK K
      refine wpAnyIn_ready (rs:= [4]) mr oK (AllReadyIn.cons rfl (fun K hK=> ?_) AllReadyIn.nil);go_simp;refine⟨trivial,(CallsIn.inRound l (callsIn_wide.2 (a0.out _))).mono ?_⟩;rintro e w6 ⟨v6,rfl,ah,ar⟩;obtain⟨A6,c6,rfl⟩:=bZ ah;have b6:Below w5 w5 w6:=uZ ar (Ak _) (Ar (Ag _ _));have S6:=az.out w6 b6;have ag:w.heap.size<=w6.heap.size:=AK (AK N.out.size L.out.size) b6.size;have p0:=S6.kH.ia 0;have ac:=Dq ah;go_simp;refine hK _ _ ?_;clear hK K;refine wpAnyIn_ready (rs:= [5]) mr oK (AllReadyIn.cons rfl (fun K hK=> ?_) AllReadyIn.nil);refine KK rfl (.tmp 31) (.tmp 35) 28 rfl w 5 j0 _ 1 1 underlying28 aj al ak am rfl ip _ _ _ mz S6.oH _ _ _ _ mz ac (Ci _ _) pm mw ag ?_;intro A7 c7 w7 E M G;have S7:=hid (S6.head M E G);have B7:=S6.kH.grown M (AU (gZ S6.oH S6.kH ip));have q0:=B7.ia 0;have q1:=B7.frozen 0;simp only[Act.put];refine hK _ _ ?_;clear hK K;refine wpAnyIn_ready (rs:= [6]) mr oK (AllReadyIn.cons rfl (fun K hK=> ?_) AllReadyIn.nil);go_simp;refine hK _ _ ?_;clear hK K;refine wpAnyIn_done mr ?_ _;have S8:=S7.out.1;have ae:=eZ Z.out (fun y hy=>b6.block y (Aj Z.out y hy).2);have aa:Apt (.slice AH H0.length cH) (.slice A5 CK.length c5):=(IY Z.out (Ak _) (fun x hx=>(Aj HS.out.oH x hx).2)).symm;have U:=(GJ ae aa M G).1;have ab:=own_far U (gZ U B7 ip) (.slice A7 (H0.length+NC.length) c7);have au:w.heap.size<=(w7.setCell ⟨w2,0,none⟩ (.slice A7 (H0.length+NC.length) c7)).heap.size:=AK ag S7.out.2.2.2.size;have t2:=S8.kB.ia 0;have an:=Dq ab;have J:=hid S8;clear M G E ae U ab aa B7 q0 q1 p0 r0 r1 S6 ac
      gi_wp2_with (gi_at_builtin;refine K0 rfl (.tmp 37) (.tmp 38) 28 rfl w 5 j0 _ 1 1 underlying28 aj al ak am rfl ip _ _ _ mz J.out.oB _ _ _ _ mz an (Ci _ _) pm mw au ?_;intro A9 c9 w9 Q ai af;have S9:=hid (J.out.body ai Q af);have B9:=J.out.kB.grown ai (AU (gZ J.out.oB J.out.kB ip));have t0:=B9.ia 0;have t1:=B9.frozen 0)
      have K9:Hid (KeepsOthers W (w9.setCell ⟨w2.heap.size+1,0,none⟩ (.slice A9 (B0.length+CK.length) c9))/\KpC w (w2.heap.size+1+1) W (w9.setCell ⟨w2.heap.size+1,0,none⟩ (.slice A9 (B0.length+CK.length) c9))/\Below w w (w9.setCell ⟨w2.heap.size+1,0,none⟩ (.slice A9 (B0.length+CK.length) c9))):=
       ⟨(Ha L.out).trans ((Ha b6).trans (S7.out.2.1.trans S9.out.2.1)),EZ (HS.out.keeps L.out) (EZ (av.out.keeps b6) (EZ S7.out.2.2.1 S9.out.2.2.1)),(((N.out.trans (L.out.mono N.out.size)).trans (b6.mono (AK N.out.size L.out.size))).trans S7.out.2.2.2).trans S9.out.2.2.2⟩
      exact⟨K9.out.1,K9.out.2.1,⟨_,_,nF⟩,K9.out.2.2⟩
     ·go_simp;refine⟨trivial,(CallsIn.inRound l (callsIn_wide.2 (a0.out _))).mono ?_⟩;rintro e w6 ⟨v6,rfl,ah,ar⟩;obtain⟨A6,c6,rfl⟩:=bZ ah;have b6:Below w5 w5 w6:=uZ ar (Ak _) (Ar (Ag _ _));have S6:=az.out w6 b6;have ag:w.heap.size<=w6.heap.size:=AK (AK N.out.size L.out.size) b6.size;have p0:=S6.kH.ia 0;have ac:=Dq ah;go_simp;refine hK _ _ ?_;clear hK K
      refine wpAnyIn_ready (rs:= [0]) mr oK (AllReadyIn.cons rfl (fun K hK=> ?_) AllReadyIn.nil);go_simp;refine hK _ _ ?_;clear hK K;refine wpAnyIn_ready (rs:= [5]) mr oK (AllReadyIn.cons rfl (fun K hK=> ?_) AllReadyIn.nil);refine KK rfl (.tmp 31) (.tmp 35) 28 rfl w 5 j0 _ 1 1 underlying28 aj al ak am rfl ip _ _ _ mz S6.oH _ _ _ _ mz ac (Ci _ _) pm mw ag ?_;intro A7 c7 w7 E M G;have S7:=hid (S6.head M E G);have B7:=S6.kH.grown M (AU (gZ S6.oH S6.kH ip));have q0:=B7.ia 0;have q1:=B7.frozen 0;simp only[Act.put];refine hK _ _ ?_;clear hK K;refine wpAnyIn_ready (rs:= [6]) mr oK (AllReadyIn.cons rfl (fun K hK=> ?_) AllReadyIn.nil);go_simp;refine hK _ _ ?_;clear hK K;refine wpAnyIn_done mr ?_ _;have S8:=S7.out.1;have ae:=eZ Z.out (fun y hy=>b6.block y (Aj Z.out y hy).2);have aa:Apt (.slice AH H0.length cH) (.slice A5 CK.length c5):=(IY Z.out (Ak _) (fun x hx=>(Aj HS.out.oH x hx).2)).symm;have U:=(GJ ae aa M G).1;have ab:=own_far U (gZ U B7 ip) (.slice A7 (H0.length+NC.length) c7);have au:w.heap.size<=(w7.setCell ⟨w2,0,none⟩ (.slice A7 (H0.length+NC.length) c7)).heap.size:=AK ag S7.out.2.2.2.size;have t2:=S8.kB.ia 0;have an:=Dq ab;have J:=hid S8;clear M G E ae U ab aa B7 q0 q1 p0 r0 r1 S6 ac
      gi_wp2_with (gi_at_builtin;refine K0 rfl (.tmp 37) (.tmp 38) 28 rfl w 5 j0 _ 1 1 underlying28 aj al ak am rfl ip _ _ _ mz J.out.oB _ _ _ _ mz an (Ci _ _) pm mw au ?_;intro A9 c9 w9 Q ai af;have S9:=hid (J.out.body ai Q af);have B9:=J.out.kB.grown ai (AU (gZ J.out.oB J.out.kB ip));have t0:=B9.ia 0;have t1:=B9.frozen 0)
      have K9:Hid (KeepsOthers W (w9.setCell ⟨w2.heap.size+1,0,none⟩ (.slice A9 (B0.length+CK.length) c9))/\KpC w (w2.heap.size+1+1) W (w9.setCell ⟨w2.heap.size+1,0,none⟩ (.slice A9 (B0.length+CK.length) c9))/\Below w w (w9.setCell ⟨w2.heap.size+1,0,none⟩ (.slice A9 (B0.length+CK.length) c9))):=
       ⟨(Ha L.out).trans ((Ha b6).trans (S7.out.2.1.trans S9.out.2.1)),EZ (HS.out.keeps L.out) (EZ (av.out.keeps b6) (EZ S7.out.2.2.1 S9.out.2.2.1)),(((N.out.trans (L.out.mono N.out.size)).trans (b6.mono (AK N.out.size L.out.size))).trans S7.out.2.2.2).trans S9.out.2.2.2⟩
      exact⟨K9.out.1,K9.out.2.1,⟨_,_,nF⟩,K9.out.2.2⟩
 case done=>
  rintro D ys W hD ba ⟨⟨vH,vB,hS⟩,hB⟩ hK;have aq:∀s∈ls,s.length<=25:=fun s hs=>(Jc HM.out s hs).2;have eH:fZ n++ys.flatMap (fun x=>fZ (C x.val).length)=hdB size ls (nCh size n):=by unfold hdB;rw[HN.out,hC,<-ba,List.flatMap_map]
  have eB:ys.flatMap (fun x=>C x.val)=bdB size ls (nCh size n):=by unfold bdB;rw[hC,<-ba,List.flatMap_map]
  rw[eH,eB]at hS;have bx:Hid (C8 size ls=hdB size ls (nCh size n)++bdB size ls (nCh size n)):=by show _=_;rw[Of h1,HN.out];unfold hdB bdB;rw[HN.out]
  have l1:=MS aq h2 np (nCh size n);have l2:=Nf aq h1 (nCh size n);rw[HN.out]at l2;have l3:=LX (n:=n) h1;generalize hdB size ls (nCh size n)=HH at *;generalize bdB size ls (nCh size n)=BB at *;have l4:BB.length<=31*n:=mw
  obtain⟨AH,cH,rfl⟩:=bZ hS.oH;obtain⟨AB,cB,rfl⟩:=bZ hS.oB;have P1:Part.Ok (⟨AH,cH,HH⟩:Part) W:=lZ hS.oH rfl;have P2:Part.Ok (⟨AB,cB,BB⟩:Part) W:=lZ hS.oB rfl;have b0:BI [(⟨AH,cH,HH⟩:Part),⟨AB,cB,BB⟩]<=1000000:=oU
  have d0:=hS.kH.ia 0;have d1:=hS.kB.ia 0;have b9:=hid P1;have bN:=hid P2;have HB:=hid hB;have HK:=hid hK;have b5:=(Array.getElem?_eq_some_iff.1 hK).1;clear eH eB hS P1 P2 hB hK ba l2 aq hC be bh a4 a3 bg a5;go_wp2_with fail;refine(Fz _ _ 2 [(⟨AH,cH,HH⟩:Part),⟨AB,cB,BB⟩] rfl mw b0 (fun p hp=>by rcases AM.1 hp with rfl|hp;exact b9.out.step (aZ (Ag _ _));rcases AM.1 hp with rfl|hp;exact bN.out.step (aZ (Ag _ _));cases hp) (Blk.made _ _ _)).mono ?_;rintro e w9 ⟨v9,rfl,bS,bp⟩;go_wp2_with fail;have bi:w9.heap[D]? =some (.deferred (some [])):=(bp.block D oT).trans ((DJ _ _ D b5).trans HK.out);have b8:w.heap.size<=D:=mw
  have aw:=kZ bS (show w.heap.size<=_ by have:=HB.out.size;simp;omega);simp only[List.flatMap_cons,List.flatMap_nil,List.append_nil]at aw;rw[<-bx.out]at aw;have bu:Below w w w9:=uZ bp (by have:=HB.out.size;simp;omega) (nZ HB.out.size HB.out);have bC:v9.ownBlock≠some D:=fun e=>by have h:=own_cells aw e bi;cases h
  refine⟨oK, .inl ⟨_,_,rfl,run_takeDeferred bi,?_⟩⟩;refine⟨_,results_tmp2 rfl _ _ _,v9,rfl,?_,bu.trans (belowK_b (w:=w) (Ak _) w9 D _ _ b8 bi rfl rfl)⟩;exact eZ aw fun y hy=>World.putObj_heap_other (fun e=>bC nR)
 case stop=>rintro D cc pre W _ _ h _;exact h.elim
end Idx
end Go.Proofs.YtfgdoknipbpfhaaGreatDoor
