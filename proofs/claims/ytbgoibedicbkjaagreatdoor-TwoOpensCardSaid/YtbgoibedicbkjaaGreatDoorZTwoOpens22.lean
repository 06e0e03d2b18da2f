/- slices.Chunk of texts: the function and its closure: the contract for  -/
import Derived.Test.YtbgoibedicbkjaaGreatDoorZTwoOpens20
import Derived.RangeFuncNested
import Derived.RangeFuncBound
import Derived.RangeFuncCalls
import Derived.RangeFuncLeaves
import Derived.Shelf.Abstract
import Derived.Shelf.RegionOpen
import Derived.WalkKit
import Derived.OwnWalkIn
import Derived.TacticsInMore
import Derived.LoopNIn
import Derived.LoopIn
namespace Go.Proofs.YtbgoibedicbkjaaGreatDoor end Go.Proofs.YtbgoibedicbkjaaGreatDoor open Go.Proofs.YtbgoibedicbkjaaGreatDoor
open Go.Lib (hid)
set_option maxHeartbeats 4000000
set_option maxRecDepth 100000
namespace Go.Proofs.YtbgoibedicbkjaaGreatDoor.Idx
open Go.RowKit Go.Shelf Mem Go.Proofs.YtbgoibedicbkjaaGreatDoor.Own Canon
def chV(b off size n k:Nat):Value:= .slice (some ⟨b,off+k*size,none⟩) (min size (n-k*size)) (min size (n-k*size))
theorem beZb(w:World)(A:Option Addr)(n c size:Nat)(h1:1<=size)(h2:size<=1000):
 Calls Tryz.prog 148 #[.slice A n c, .int .i64 (size:Nat)] w fun e w'=>e= .returned (.func (.func 196) #[] #[.pointer (some ⟨w.heap.size,0,none⟩), .pointer (some ⟨w.heap.size+1,0,none⟩)])/\w'=(w.alloc (.cells #[.slice A n c] 33)).alloc (.cells #[.int .i64 (size:Nat)] 3):=by
 have y1:decide ((size:Int)<1)=false:=by simp;omega
 have y1':decide (size<1)=false:=by simp;omega
 go_enter Tryz.func148,Tryz.ntmps148
 go_wp2_with fail
 go_ret
 exact⟨rfl,rfl⟩
theorem whZb(b off n c i e:Nat)(he:1<=e)(hn:i+e<=n)(hc:n<=c)(w:World):
 (Instr.slice 33 (.slice (some ⟨b,off,none⟩) n c) (some (.int .i64 (i:Int))) (some (.int .i64 ((i:Int)+(e:Int)))) (some (.int .i64 ((i:Int)+(e:Int))))).run Tryz.prog w= .ok (.slice (some ⟨b,off+i,none⟩) e e) w:=by
 have h0:Tryz.prog.elem 33=9:=by simp[Program.elem,Tryz.underlying33]
 have hs:(sizeOf 9).run Tryz.prog w= .ok 1 w:=by kernel_rfl
 rw[run_slice_lhm w 33 (some ⟨b,off,none⟩) n c (by rw[h0];exact Tryz.underlying33) .i64 .i64 .i64 (i:Int) ((i:Int)+(e:Int)) ((i:Int)+(e:Int)) (by omega) (by omega) (by omega) (by omega),h0,hs]
 have e1:((i:Int)+(e:Int)).toNat=i+e:=by omega
 show Result.ok (sliced _ _ _ _ _) w=_
 rw[e1,Int.toNat_natCast]
 unfold sliced
 have e2:i+e-i=e:=by omega
 rw[if_neg (by omega),e2]
 simp[cdZ]
def biZ(N k:Nat):List (Fin N):=(List.finRange N).take k
theorem ayZ{N k:Nat}(h:k<N):biZ N (k+1)=biZ N k++ [⟨k,h⟩]:=by
 unfold biZ
 rw[List.take_add_one,List.getElem?_eq_getElem (by simpa using h)]
 simp
theorem cbZb{N k:Nat}(h:k<=N):(biZ N k).length=k:=by simp[biZ];omega
theorem dbZb(N:Nat):(biZ N N).map Fin.val=List.range N:=by
 apply List.ext_getElem
 ·simp[biZ]
 ·intro i h1 h2
  simp[biZ]
theorem ceZb(m:Nat)(l Bs Bn n c size N:Nat)(A:Option Addr)(b off:Nat)(hA:0<n->A=some ⟨b,off,none⟩)(h1:1<=size)(h2:size<=1000)(hn:n<=1000000)(hc:n<=c)(hN:∀k,k<N↔k*size<n)
 (Kp:World->World->Prop)(hKs:∀W W',Kp W W'->W'.cell? ⟨Bs,0,none⟩=W.cell? ⟨Bs,0,none⟩/\W'.cell? ⟨Bn,0,none⟩=W.cell? ⟨Bn,0,none⟩)(J Jx:List (Fin N)->World->Prop)(hJ:∀pre W,J pre W->J pre W.drew)
 (hY:∀pre (x:Fin N) W,J pre W->pre.length<N->YieldAt Fence.wide (m-1) Tryz.prog l #[chV b off size n x.val] W fun e W'=>
   (e= .returned (.bool true)/\J (pre++ [x]) W'/\Kp W W')∨(e= .returned (.bool false)/\Jx (pre++ [x]) W'))
 (W:World)(hBs:W.cell? ⟨Bs,0,none⟩=some (.slice A n c))(hBn:W.cell? ⟨Bn,0,none⟩=some (.int .i64 (size:Nat)))(h0:J [] W):
 CallsIn Fence.wide m Tryz.prog 196 #[.func (.yield l) #[] #[], .pointer (some ⟨Bs,0,none⟩), .pointer (some ⟨Bn,0,none⟩)] W fun e W'=>(∃v,e= .returned v)/\
  ((∃ys:List (Fin N),ys.map Fin.val=List.range N/\J ys W')∨(∃pre,True/\Jx pre W')):=by
 refine callsIn_of_wp Tryz.func196 rfl trivial ?_ rfl
 simp only[Tryz.ntmps196,List.size_toArray,List.length_cons,List.length_nil,Nat.reduceAdd,Nat.reduceSub,Array.replicate_succ,Array.replicate_zero,List.push_toArray,List.append_toArray,List.nil_append,List.cons_append]
 gi_wp2
 gi_loopw [4,5] (fun iv _ wr=>∃k i:Nat,k<=N/\i<=1001000/\iv= .int .i64 i/\Hid (i=k*size)/\Hid (J (biZ N k) wr)/\wr.cell? ⟨Bs,0,none⟩=some (.slice A n c)/\wr.cell? ⟨Bn,0,none⟩=some (.int .i64 (size:Nat)))
  (fun iv _ _=>n+size-(intOf iv).toNat)
 case atStart=>exact⟨0,0,Nat.zero_le _,by omega,rfl,by show 0=_;omega,h0,hBs,hBn⟩
 case round=>
  obtain⟨k,i,hk,hi,rfl,HI,HJ,hc1,hc2⟩:=hrel
  by_cases hlt:i<n
  ·have hkN:k<N:=(hN k).2 (by rw[<-HI.out];exact hlt)
   obtain rfl:=hA (by omega)
   have gk:decide ((i:Int)<(n:Int))=true:=by simp;omega
   have gk':decide (i<n)=true:=by simp;omega
   have ks:=fun wx=>vcZ (P:=Tryz.prog) (t:=33) (s:=1) Tryz.underlying33 (fun _=>by kernel_rfl) (some ⟨b,off,none⟩) n c .i64 (i:Int) i rfl (by omega) wx
   generalize sZ (some ⟨b,off,none⟩) i c 1=A1 at *
   obtain⟨en,hen⟩:∃en,en=min size (n-i):=⟨_,rfl⟩
   have he1:1<=en:=by omega
   have he2:i+en<=n:=by omega
   have ks3:=fun wx=>whZb b off n c i en he1 he2 hc wx
   obtain⟨fn,tmps,assign,body,hy,hR⟩:=hY _ ⟨k,hkN⟩ wr.drew (hJ _ _ HJ.out) (by rw[cbZb hk];exact hkN)
   have hch:chV b off size n k= .slice (some ⟨b,off+i,none⟩) en en:=by unfold chV;rw[<-HI.out,hen]
   rw[hch]at hy
   have hcd1:wr.drew.cell? ⟨Bs,0,none⟩=some (.slice (some ⟨b,off,none⟩) n c):=hc1
   have hcd2:wr.drew.cell? ⟨Bn,0,none⟩=some (.int .i64 (size:Nat)):=hc2
   have em:min (size:Int) ((n-i:Nat):Int)=(en:Int):=by omega
   have HI2:Hid (i+size=(k+1)*size):=by show _=_;rw[HI.out,Nat.add_mul,Nat.one_mul]
   have HFS:=hid (ayZ hkN)
   clear hch hen
   gi_wp2
   gi_region
   gi_wp2
   refine⟨(fun h=>by cases h),?_⟩
   refine hR.mono ?_
   rintro e W3 (⟨rfl,hJ3,hk3⟩|⟨rfl,hJx3⟩)
   ·obtain⟨q1,q2⟩:=hKs _ _ hk3
    have r1:=q1.trans hcd1
    have r2:=q2.trans hcd2
    rw[<-HFS.out]at hJ3
    have HJ3:=hid hJ3
    clear hJ3 hk3 q1 q2
    gi_wp2
    go_roundw
    case rel=>exact⟨k+1,i+size,by omega,by omega,by first|rfl|(simp;done)|go_num,HI2.out,HJ3.out,r1,r2⟩
    case measure=>simp[intOf];omega
   ·gi_wp2
    refine bodyPost_ret (results_none rfl _ _ _) rfl ?_
    exact⟨⟨_,rfl⟩, .inr ⟨_,trivial,hJx3⟩⟩
  ·have gk:decide ((i:Int)<(n:Int))=false:=by simp;omega
   have gk':decide (i<n)=false:=by simp;omega
   have hkN:k=N:=by
    have:¬k<N:=fun h=>by have:=(hN k).1 h;have:=HI.out;omega
    omega
   subst hkN
   gi_wp2
   go_end0
   exact⟨⟨_,rfl⟩, .inl ⟨_,dbZb k,HJ.out⟩⟩
def KpC(B Bs:Nat)(W W':World):Prop:=∀k,k<B∨k=Bs∨k=Bs+1->W'.heap[k]? =W.heap[k]?
theorem cfZ{B Bs:Nat}{X Y Z:World}(h:KpC B Bs X Y)(k:KpC B Bs Y Z):KpC B Bs X Z:=fun j hj=>(k j hj).trans (h j hj)
theorem rlZb{B Bs:Nat}{w:World}(hB:B<=w.heap.size)(hs:Bs+1<w.heap.size)(W:World)(l:Nat)(o o':Obj)(hl:w.heap.size<=l)(_:W.heap[l]? =some o)(_:o.isCells=false)(_:o.isWalk=false):KpC B Bs W (W.putObj l o'):=
 fun j hj=>World.putObj_heap_other (by omega)
theorem byZ(m B Bs n c size N:Nat)(A:Option Addr)(b off:Nat)(hA:0<n->A=some ⟨b,off,none⟩)(h1:1<=size)(h2:size<=1000)(hn:n<=1000000)(hc:n<=c)(hN:∀k,k<N↔k*size<n)
 (w:World)(hs:Bs+1<w.heap.size)(hBs:w.cell? ⟨Bs,0,none⟩=some (.slice A n c))(hBn:w.cell? ⟨Bs+1,0,none⟩=some (.int .i64 (size:Nat))):
 SeqStopsK Fence.wide m Tryz.prog 196 #[.pointer (some ⟨Bs,0,none⟩), .pointer (some ⟨Bs+1,0,none⟩)] (fun x:Fin N=>#[chV b off size n x.val]) (KpC B Bs) (fun ys=>ys.map Fin.val=List.range N) (fun _=>True) N w:=
 fun l J Jx W hW hJ _ hY h0=>
  ceZb m l Bs (Bs+1) n c size N A b off hA h1 h2 hn hc hN (KpC B Bs) (fun X Y h=>⟨World.cell?_of_block (a:=⟨Bs,0,none⟩) (h Bs (.inr (.inl rfl))),World.cell?_of_block (a:=⟨Bs+1,0,none⟩) (h (Bs+1) (.inr (.inr rfl)))⟩) J Jx
   (fun pre V h=>hJ pre V V.drew none h ⟨rfl,rfl,rfl,Nat.le_refl _,fun _ _ _=>rfl⟩ (fun _ e=>by cases e)) hY W ((hW.cell (p:=⟨Bs,0,none⟩) (by show Bs<_;omega)).trans hBs) ((hW.cell (p:=⟨Bs+1,0,none⟩) hs).trans hBn) h0
end Go.Proofs.YtbgoibedicbkjaaGreatDoor.Idx
namespace Go.Proofs.YtbgoibedicbkjaaGreatDoor.Idx
open Go.RowKit Go.Shelf Mem Go.Proofs.YtbgoibedicbkjaaGreatDoor.Own Canon Sift
open NumPut Recs Crc Block
attribute [local go_sem] Oper.semAt_some
theorem hmZ{X Y:World}{row:Option Nat}(hg:X.grownBy Y row)(hr:∀r,row=some r->∃o:Obj,X.heap[r]? =some o/\o.isCells=false){g:Nat}{t:TypeId}{cs:Array Value}(h:Blk X g t cs):Blk Y g t cs:=
 (hg.block g h.lt (fun e=>by
   obtain⟨o,ho,hc⟩:=hr g e.symm
   unfold Blk at h
   rw[h]at ho
   cases ho
   cases hc)).trans h
theorem kwZ{X Y:World}{row:Option Nat}(hg:X.grownBy Y row)(hr:∀r,row=some r->∃o:Obj,X.heap[r]? =some o/\o.isCells=false){base s n:Nat}{e:TypeId}{v:Value}{xs:List Value}(h:X.ownsRow base e s v n xs):Y.ownsRow base e s v n xs:=
 eZ h fun y hy=>hg.block y (World.ownsRow.lt h y hy).2 fun ee=>by
  obtain⟨o,ho,hc⟩:=hr y ee.symm
  rcases h.2 with ⟨rfl,_⟩|⟨g,cap,cur,rfl,_,hh,_⟩
  ·cases hy
  ·simp[Value.ownBlock]at hy
   subst hy
   rw[hh]at ho
   cases ho
   cases hc
theorem own_cells{X:World}{base s n j:Nat}{e:TypeId}{v:Value}{xs:List Value}{o:Obj}(h:X.ownsRow base e s v n xs)(hv:v.ownBlock=some j)(ho:X.heap[j]? =some o):o.isCells=true:=by
 rcases h.2 with ⟨rfl,_⟩|⟨g,cap,cur,rfl,_,hh,_⟩
 ·cases hv
 ·simp[Value.ownBlock]at hv
  subst hv
  rw[hh]at ho
  cases ho
  rfl
theorem zcZ{X Y:World}(h:Below X.heap.size X Y):KeepsOthers X Y:=⟨h.size,fun k _ hk _=>(h.block k (Array.getElem?_eq_some_iff.1 hk).1).trans hk⟩
theorem own_far{X:World}{base s n:Nat}{e:TypeId}{v:Value}{xs:List Value}(h:X.ownsRow base e s v n xs){g:Nat}(hg:v.ownBlock≠some g)(u:Value):(X.setCell ⟨g,0,none⟩ u).ownsRow base e s v n xs:=
 eZ h fun y hy=>Below.heap_setCell _ _ _ y fun e=>hg (by rw[hy,e])
theorem ciZ{l m:Nat}{P:Program}{w:World}{ops:Array Oper}{o:Oper}{a:Act}{K:Act->World->Prop}{Q:Exit->Act->World->Prop}{E:Prop}(hgd:o.guard=none)(s x:Operand)(t:TypeId)
 (ho:o.op= .call {callee:= .builtin .append,args:=#[s,x],argTypes:=#[t,t] })
 (base:Nat)(e:TypeId)(i:TypeInfo)(z:Value)(size bytes:Nat)(ht:P.underlying t=some (.slice e))(hi:P.info? e=some i)(hz:i.zero=some z)
 (hsize:i.size=size)(hby:i.bytes=bytes)(hzs:z.cells.size=size)(hsz:0<size)
 (v:Value)(n:Nat)(xs:List Value)(hs:a.eval s=v)(hown:w.ownsRow base e size v n xs)
 (A:Option Addr)(k c:Nat)(news:List Value)(hx:a.eval x= .slice A k c)(hsrc:Src w A k c size news)(h1:∀u∈news,u.oneCell'=true)
 (h63:n+k<=maxLen)(hbytes:(n+k)*bytes<=140737488355328)(hbase:base<=w.heap.size)
 (h:∀A' c' w',w'.ownsRow base e size (.slice A' (n+k) c') (n+k) (xs++news)->w.grownBy w' v.ownBlock->((Value.slice A' (n+k) c').ownBlock=v.ownBlock∨(Value.slice A' (n+k) c').ownBlock=some w.heap.size)->K (a.put o.dst (.slice A' (n+k) c')) w'):
 if Region.wanted o (yielded ops a.tmps)=true then Oper.wpIn (Fence.wide.inRound l) m P o a w K Q else E:=by
 have hw:Region.wanted o (yielded ops a.tmps)=true:=by simp[Region.wanted,hgd]
 rw[if_pos hw]
 obtain⟨v',w',hr,h2,h3,h5⟩:=ojZ (P:=P) w base t o.type e i z size bytes ht hi hz hsize hby hzs hsz v n xs hown A k c news hsrc h1 h63 hbytes hbase
 obtain⟨A',c',rfl⟩:=bZ h2
 refine⟨fun _ _=>trivial,?_⟩
 rw[Oper.semAt_eq _ _ _ (fun c hc=>by rw[ho]at hc;cases hc)]
 unfold execOp
 simp only[ho,resolve,invoke,builtin,Sem.run_bind,Sem.run_pure,Result.andThen_ok,List.map_toArray,List.map_cons,List.map_nil,hs,hx,hr]
 exact h A' c' w' h2 h3 h5
theorem lgZ{l m:Nat}{P:Program}{w:World}{ops:Array Oper}{rest:List Oper}{o:Oper}{a:Act}{Q:Exit->Act->World->Prop}(hgd:o.guard=none)(s x:Operand)(t:TypeId)
 (ho:o.op= .call {callee:= .builtin .append,args:=#[s,x],argTypes:=#[t,t] })
 (base:Nat)(e:TypeId)(i:TypeInfo)(z:Value)(size bytes:Nat)(ht:P.underlying t=some (.slice e))(hi:P.info? e=some i)(hz:i.zero=some z)
 (hsize:i.size=size)(hby:i.bytes=bytes)(hzs:z.cells.size=size)(hsz:0<size)
 (v:Value)(n:Nat)(xs:List Value)(hs:a.eval s=v)(hown:w.ownsRow base e size v n xs)
 (A:Option Addr)(k c:Nat)(news:List Value)(hx:a.eval x= .slice A k c)(hsrc:Src w A k c size news)(h1:∀u∈news,u.oneCell'=true)
 (h63:n+k<=maxLen)(hbytes:(n+k)*bytes<=140737488355328)(hbase:base<=w.heap.size)
 (h:∀A' c' w',w'.ownsRow base e size (.slice A' (n+k) c') (n+k) (xs++news)->w.grownBy w' v.ownBlock->((Value.slice A' (n+k) c').ownBlock=v.ownBlock∨(Value.slice A' (n+k) c').ownBlock=some w.heap.size)->wpListIn (Fence.wide.inRound l) m P ops Q rest (a.put o.dst (.slice A' (n+k) c')) w'):
 wpListIn (Fence.wide.inRound l) m P ops Q (o :: rest) a w:=by
 refine wpListIn_plain hgd fun K hK=> ?_
 obtain⟨v',w',hr,h2,h3,h5⟩:=ojZ (P:=P) w base t o.type e i z size bytes ht hi hz hsize hby hzs hsz v n xs hown A k c news hsrc h1 h63 hbytes hbase
 obtain⟨A',c',rfl⟩:=bZ h2
 refine⟨fun _ _=>trivial,?_⟩
 rw[Oper.semAt_eq _ _ _ (fun c hc=>by rw[ho]at hc;cases hc)]
 unfold execOp
 simp only[ho,resolve,invoke,builtin,Sem.run_bind,Sem.run_pure,Result.andThen_ok,List.map_toArray,List.map_cons,List.map_nil,hs,hx,hr]
 exact hK _ _ (h A' c' w' h2 h3 h5)
structure DS (base hb:Nat) (vs vn:Value) (H B:List Nat) (vH vB:Value) (W:World):Prop where
 kH:Blk W hb 22 #[vH]
 kB:Blk W (hb+1) 22 #[vB]
 kS:Blk W (hb+1+1) 33 #[vs]
 kN:Blk W (hb+1+1+1) 3 #[vn]
 oH:W.ownsRow base 5 1 vH H.length (cZ .u8 H)
 oB:W.ownsRow base 5 1 vB B.length (cZ .u8 B)
 ap:Apt vH vB
 gb:base<=hb
section
variable {base hb:Nat} {vs vn vH vB v':Value} {H B X:List Nat} {W w':World}
theorem DS.step(h:DS base hb vs vn H B vH vB W)(b:Below W.heap.size W w'):DS base hb vs vn H B vH vB w':=
 ⟨h.kH.step b,h.kB.step b,h.kS.step b,h.kN.step b,eZ h.oH fun y hy=>b.block y (World.ownsRow.lt h.oH y hy).2,eZ h.oB fun y hy=>b.block y (World.ownsRow.lt h.oB y hy).2,h.ap,h.gb⟩
theorem DS.keeps(h:DS base hb vs vn H B vH vB W)(b:Below W.heap.size W w'):KpC base (hb+1+1) W w':=fun k hk=>by
 refine b.block k ?_
 have:=h.kS.lt
 have:=h.kN.lt
 have:=h.gb
 omega
theorem DS.head(h:DS base hb vs vn H B vH vB W)(g:W.grownBy w' vH.ownBlock)(o:w'.ownsRow base 5 1 v' (H.length+X.length) (cZ .u8 H++cZ .u8 X))(t:v'.ownBlock=vH.ownBlock∨v'.ownBlock=some W.heap.size):
 DS base hb vs vn (H++X) B v' vB (w'.setCell ⟨hb,0,none⟩ v')/\KeepsOthers W (w'.setCell ⟨hb,0,none⟩ v')/\KpC base (hb+1+1) W (w'.setCell ⟨hb,0,none⟩ v')/\Below base W (w'.setCell ⟨hb,0,none⟩ v'):=by
 have n1:some hb≠vH.ownBlock:=Ne.symm (jZ h.oH h.kH (by decide))
 have n2:some (hb+1)≠vH.ownBlock:=Ne.symm (jZ h.oH h.kB (by decide))
 have n3:some (hb+1+1)≠vH.ownBlock:=Ne.symm (jZ h.oH h.kS (by decide))
 have n4:some (hb+1+1+1)≠vH.ownBlock:=Ne.symm (jZ h.oH h.kN (by decide))
 have k1:=h.kH.grown g n1
 have k2:=h.kB.grown g n2
 have k3:=h.kS.grown g n3
 have k4:=h.kN.grown g n4
 obtain⟨oB2,ap2⟩:=udZ h.oB h.ap g t
 have hgb:=h.gb
 have l1:=h.kS.lt
 have l2:=h.kN.lt
 have ho:w'.ownsRow base 5 1 v' (H++X).length (cZ .u8 (H++X)):=by
  rw[List.length_append,show cZ .u8 (H++X)=cZ .u8 H++cZ .u8 X by simp[cZ]]
  exact o
 refine⟨⟨by simpa using k1.set 0 v',k2.far (by show hb+1≠hb;omega) _,k3.far (by show hb+1+1≠hb;omega) _,k4.far (by show hb+1+1+1≠hb;omega) _,own_far ho (jZ ho k1 (by decide)) _,own_far oB2 (jZ oB2 k1 (by decide)) _,ap2,hgb⟩,?_,fun k hk=> ?_,?_⟩
 ·exact(KeepsOthers.of_grownBy g fun j o e hj=>own_cells h.oH e hj).trans (KeepsOthers.setCell _ _ _)
 ·refine(Below.heap_setCell _ _ _ k (by show k≠hb;omega)).trans (g.block k (by omega) fun e=> ?_)
  rcases hk with hk|hk|hk
  ·have:=(World.ownsRow.lt h.oH k e.symm).1
   omega
  ·exact n3 (hk ▸ e)
  ·exact n4 (hk ▸ e)
 ·exact((Below.refl base W).grown g (by omega) fun y hy=>(World.ownsRow.lt h.oH y hy).1).setCell (p:=⟨hb,0,none⟩) hgb _
theorem DS.body(h:DS base hb vs vn H B vH vB W)(g:W.grownBy w' vB.ownBlock)(o:w'.ownsRow base 5 1 v' (B.length+X.length) (cZ .u8 B++cZ .u8 X))(t:v'.ownBlock=vB.ownBlock∨v'.ownBlock=some W.heap.size):
 DS base hb vs vn H (B++X) vH v' (w'.setCell ⟨hb+1,0,none⟩ v')/\KeepsOthers W (w'.setCell ⟨hb+1,0,none⟩ v')/\KpC base (hb+1+1) W (w'.setCell ⟨hb+1,0,none⟩ v')/\Below base W (w'.setCell ⟨hb+1,0,none⟩ v'):=by
 have n1:some hb≠vB.ownBlock:=Ne.symm (jZ h.oB h.kH (by decide))
 have n2:some (hb+1)≠vB.ownBlock:=Ne.symm (jZ h.oB h.kB (by decide))
 have n3:some (hb+1+1)≠vB.ownBlock:=Ne.symm (jZ h.oB h.kS (by decide))
 have n4:some (hb+1+1+1)≠vB.ownBlock:=Ne.symm (jZ h.oB h.kN (by decide))
 have k1:=h.kH.grown g n1
 have k2:=h.kB.grown g n2
 have k3:=h.kS.grown g n3
 have k4:=h.kN.grown g n4
 obtain⟨oH2,ap2⟩:=udZ h.oH h.ap.symm g t
 have hgb:=h.gb
 have l1:=h.kS.lt
 have l2:=h.kN.lt
 have ho:w'.ownsRow base 5 1 v' (B++X).length (cZ .u8 (B++X)):=by
  rw[List.length_append,show cZ .u8 (B++X)=cZ .u8 B++cZ .u8 X by simp[cZ]]
  exact o
 refine⟨⟨k1.far (by show hb≠hb+1;omega) _,by simpa using k2.set 0 v',k3.far (by show hb+1+1≠hb+1;omega) _,k4.far (by show hb+1+1+1≠hb+1;omega) _,own_far oH2 (jZ oH2 k2 (by decide)) _,own_far ho (jZ ho k2 (by decide)) _,ap2.symm,hgb⟩,?_,fun k hk=> ?_,?_⟩
 ·exact(KeepsOthers.of_grownBy g fun j o e hj=>own_cells h.oB e hj).trans (KeepsOthers.setCell _ _ _)
 ·refine(Below.heap_setCell _ _ _ k (by show k≠hb+1;omega)).trans (g.block k (by omega) fun e=> ?_)
  rcases hk with hk|hk|hk
  ·have:=(World.ownsRow.lt h.oB k e.symm).1
   omega
  ·exact n3 (hk ▸ e)
  ·exact n4 (hk ▸ e)
 ·exact((Below.refl base W).grown g (by omega) fun y hy=>(World.ownsRow.lt h.oB y hy).1).setCell (p:=⟨hb+1,0,none⟩) (by show base<=hb+1;omega) _
end
def DSt(base hb:Nat)(vs vn:Value)(H B:List Nat)(W:World):Prop:=∃vH vB,DS base hb vs vn H B vH vB W
theorem DSt.own{α:Type}(base hb:Nat)(vs vn:Value)(fH fB:α->List Nat):Own (fun(s:α) W=>DSt base hb vs vn (fH s) (fB s) W):=fun s X Y row hs hg hr=>by
 obtain⟨vH,vB,h⟩:=hs
 exact⟨vH,vB,hmZ hg hr h.kH,hmZ hg hr h.kB,hmZ hg hr h.kS,hmZ hg hr h.kN,kwZ hg hr h.oH,kwZ hg hr h.oB,h.ap,h.gb⟩
theorem cyZ(w:World)(size:Nat)(A:Option Addr)(n c:Nat)(ls:List Str)(hn:ls.length=n)(h1:1<=size)(h2:size<=64)(hN:n<=20000)(hnc:n<=c)(hm:nlZ ls=true)(ha:Row w w.heap.size A n 1 (ehZ ls)):
 Calls Tryz.prog 102 #[.int .i64 (size:Nat), .slice A n c] w fun e w'=>∃v,e= .returned (.tuple #[v, .int .i64 0])/\w'.ownsRow w.heap.size 5 1 v (agZ size ls).length (cZ .u8 (agZ size ls))/\Below w.heap.size w w':=by
 have HN:=hid hn
 have HA:=hid ha
 have DM:=hid (hxZ w A n c ls hn (by omega) ha)
 rw[hm]at DM
 have DN:=hid (fun wx=>pcZ wx n (by omega))
 have DC:=hid (fun wx=>beZb wx A n c size h1 (by omega))
 have y1:decide ((size:Int)<1)=false:=by simp;omega
 have y1':decide (size<1)=false:=by simp;omega
 have y2:decide ((64:Int)<(size:Int))=false:=by simp;omega
 have y2':decide (64<size)=false:=by simp;omega
 have u1:IntKind.u64.wrap (n:Int)=(n:Int):=by rw[IntKind.wrap_u64];omega
 obtain⟨b,off,hAb⟩:∃b off,0<n->A=some ⟨b,off,none⟩:=by
  by_cases h:0<n
  ·obtain⟨b,off,hA,_,_⟩:=ha h
   exact⟨b,off,fun _=>hA⟩
  ·exact⟨0,0,fun h'=>absurd h' h⟩
 have HAB:=hid hAb
 have HM:=hid hm
 clear hn ha hm hAb
 refine(callsIn_wide (n:=3)).1 (callsIn_of_wp_marks Tryz.func102 rfl trivial (wpIn_wide.2 ?_) rfl)
 simp only[Tryz.ntmps102,List.size_toArray,List.length_cons,List.length_nil,Nat.reduceAdd,Nat.reduceSub,Array.replicate_succ,Array.replicate_zero,List.push_toArray,List.append_toArray,List.nil_append,List.cons_append]
 go_wp2_with fail
 refine DM.out.mono ?_
 rintro e w1 ⟨rfl,rfl⟩
 obtain⟨w,rfl⟩:∃w:World,w=w1:=⟨_,rfl⟩
 clear DM
 go_wp2_with fail
 refine(DN.out _).mono ?_
 rintro e w2 ⟨v2,rfl,ho2,hb2⟩
 obtain⟨A2,c2,rfl⟩:=bZ ho2
 have HO2:=hid ho2
 have HB2:=hid hb2
 clear ho2 hb2 DN
 go_wp2_with fail
 refine(DC.out _).mono ?_
 rintro e w3 ⟨rfl,rfl⟩
 clear DC
 go_wp2_with fail
 have hbH:Blk ((((w2.alloc (.cells #[.slice A2 (nZ n).length c2] 22)).alloc (.cells #[.slice none 0 0] 22)).alloc (.cells #[.slice A n c] 33)).alloc (.cells #[.int .i64 (size:Nat)] 3)) w2.heap.size 22 #[.slice A2 (nZ n).length c2]:=(((Blk.made _ _ _).alloc _).alloc _).alloc _
 have hbB:Blk ((((w2.alloc (.cells #[.slice A2 (nZ n).length c2] 22)).alloc (.cells #[.slice none 0 0] 22)).alloc (.cells #[.slice A n c] 33)).alloc (.cells #[.int .i64 (size:Nat)] 3)) (w2.heap.size+1) 22 #[.slice none 0 0]:=((Blk.made_at _ _ _ (by simp)).alloc _).alloc _
 have hbs:Blk ((((w2.alloc (.cells #[.slice A2 (nZ n).length c2] 22)).alloc (.cells #[.slice none 0 0] 22)).alloc (.cells #[.slice A n c] 33)).alloc (.cells #[.int .i64 (size:Nat)] 3)) (w2.heap.size+1+1) 33 #[.slice A n c]:=(Blk.made_at _ _ _ (by simp)).alloc _
 have hbn:Blk ((((w2.alloc (.cells #[.slice A2 (nZ n).length c2] 22)).alloc (.cells #[.slice none 0 0] 22)).alloc (.cells #[.slice A n c] 33)).alloc (.cells #[.int .i64 (size:Nat)] 3)) (w2.heap.size+1+1+1) 3 #[.int .i64 (size:Nat)]:=Blk.made_at _ _ _ (by simp)
 have hb4:Below w2.heap.size w2 ((((w2.alloc (.cells #[.slice A2 (nZ n).length c2] 22)).alloc (.cells #[.slice none 0 0] 22)).alloc (.cells #[.slice A n c] 33)).alloc (.cells #[.int .i64 (size:Nat)] 3)):=aZ (aZ (aZ (aZ (Below.refl _ _))))
 have hsz:((((w2.alloc (.cells #[.slice A2 (nZ n).length c2] 22)).alloc (.cells #[.slice none 0 0] 22)).alloc (.cells #[.slice A n c] 33)).alloc (.cells #[.int .i64 (size:Nat)] 3)).heap.size=w2.heap.size+4:=by simp
 generalize ((((w2.alloc (.cells #[.slice A2 (nZ n).length c2] 22)).alloc (.cells #[.slice none 0 0] 22)).alloc (.cells #[.slice A n c] 33)).alloc (.cells #[.int .i64 (size:Nat)] 3))=W0 at *
 have HO0:W0.ownsRow w.heap.size 5 1 (.slice A2 (nZ n).length c2) (nZ n).length (cZ .u8 (nZ n)):=eZ HO2.out (fun y hy=>hb4.block y (World.ownsRow.lt HO2.out y hy).2)
 have HB0:Below w.heap.size w W0:=iZ hb4 HB2.out.size HB2.out
 have hwz:=HB2.out.size
 obtain⟨C,hC⟩:∃C:Nat->List Nat,C=fun k=>ibZ (ecZ size ls k):=⟨_,rfl⟩
 refine wpIn_wide.1 (wpIn_rangeFunc_ownF (F:=Fence.wide) (n:=3) rfl (by omega) (gf:=196) (lb:=#[.pointer (some ⟨w2.heap.size+1+1,0,none⟩), .pointer (some ⟨w2.heap.size+1+1+1,0,none⟩)]) rfl trivial (enters_of Tryz.func196 (by kernel_rfl) rfl)
  (byZ 2 w.heap.size (w2.heap.size+1+1) n c size (nCh size n) A b off HAB.out h1 (by omega) (by omega) hnc (fun k=>prZ h1) W0 (by omega) (hbs.cell 0) (hbn.cell 0)) cfZ (rlZb (by omega) (by omega)) (Below.refl _ _) (fun _=>rfl)
  (fun pre W=>DSt w.heap.size w2.heap.size (.slice A n c) (.int .i64 (size:Nat)) (nZ n++pre.flatMap (fun x=>nZ (C x.val).length)) (pre.flatMap (fun x=>C x.val)) W/\Below w.heap.size w W)
  (fun _ _ _=>False)
  (OwnFrom.and (Own.from (DSt.own _ _ _ _ _ _) _) (ownFrom_below (Nat.le_refl _) (by omega)))
  (fun _ _ _ _ _ hs _ _=>hs)
  ⟨⟨_,_,hbH,hbB,hbs,hbn,by simpa using HO0,World.ownsRow_nil _ _ _ _,(fun _ _ h=>by cases h),hwz⟩,HB0⟩
  (fun x=>{tmps:=#[.int .i64 size, .slice A n c,undef,undef, .slice none 0 0, .int .i64 0, .pointer (some ⟨w2.heap.size,0,none⟩), .pointer (some ⟨w2.heap.size+1,0,none⟩),chV b off size n x.val,undef, .int .i64 size, .bool false, .bool false, .int .i64 size, .bool false, .bool false, .bool false, .slice A n c, .bool true, .bool false, .bool false, .slice A n c, .int .i64 n, .int .u64 n, .slice A2 (nZ n).length c2, .slice A n c, .int .i64 size, .func (.func 196) #[] #[.pointer (some ⟨w2.heap.size+1+1,0,none⟩), .pointer (some ⟨w2.heap.size+1+1+1,0,none⟩)],chV b off size n x.val,undef,undef,undef,undef,undef,undef,undef,undef,undef,undef,undef,undef,undef,undef,undef],defers:= [] }) ?assign ?body ?done ?stop)
 case assign=>
  intro l x W K hK
  gi_wp2
  exact hK
 case body=>
  rintro l pre ⟨k,hk⟩ W ⟨⟨vH,vB,hS⟩,hB⟩ hlen
  obtain⟨j0,hj0,hy0,hy1,hy2⟩:=info_parts acZ
  have hkn:=(prZ (n:=n) (k:=k) h1).1 hk
  have hsm:∀s∈ls,s.length<=25:=fun s hs=>(ijZ HM.out s hs).2
  obtain⟨i,hi⟩:∃i,i=k*size:=⟨_,rfl⟩
  rw[<-hi]at hkn
  obtain⟨z,hz⟩:∃z,z=min size (n-i):=⟨_,rfl⟩
  have hcl:(ecZ size ls k).length=z:=by rw[cmZ,HN.out,<-hi,hz]
  have hcv:chV b off size n k= .slice (some ⟨b,off+i,none⟩) z z:=by unfold chV;rw[<-hi,hz]
  have hrow:Row W W.heap.size (some ⟨b,off+i,none⟩) z 1 (ehZ (ecZ size ls k)):=fun _=>by
   obtain⟨b',off',hA',hbb,hc⟩:=(HA.out.below hB) (by omega)
   rw[HAB.out (by omega)]at hA'
   injection hA' with hA'
   injection hA' with e1 e2
   subst e1 e2
   refine⟨b,off+i,rfl,Nat.lt_of_lt_of_le hbb hB.size,fun r j hr hj=> ?_⟩
   have h:=hc (i+r) j (by omega) hj
   rw[show off+i+(r*1+j)=off+((i+r)*1+j) by omega,h]
   unfold ehZ ecZ
   rw[<-hi]
   congr 3
   rw[List.getD_eq_getElem?_getD,List.getD_eq_getElem?_getD,List.getElem?_take,List.getElem?_drop,if_pos (by omega)]
  have DB:=hid (saZb W (some ⟨b,off+i,none⟩) z z (ecZ size ls k) hcl (by omega) (by omega) (Nat.le_refl _) (fun s hs=>hsm s (bmZ hs)) hrow)
  rw[show ibZ (ecZ size ls k)=C k by rw[hC]]at DB
  unfold orZ at DB
  have hck:(C k).length<=1984:=by rw[hC];exact lkZ hsm h2 k
  have hpH:(nZ n++pre.flatMap (fun x=>nZ (C x.val).length)).length<=10+10*pre.length:=by
   rw[List.length_append]
   have h0:=rZ (x:=n) (by omega)
   have h9:∀q:List (Fin (nCh size n)),(q.flatMap (fun x=>nZ (C x.val).length)).length<=10*q.length:=fun q=>by
    induction q with
    |nil=>simp
    |cons x t ih=>
     have hx:(C x.val).length<=1984:=by rw[hC];exact lkZ hsm h2 x.val
     have:=rZ (x:=(C x.val).length) (by omega)
     rw[List.flatMap_cons,List.length_append,List.length_cons]
     omega
   have:=h9 pre
   omega
  have hpB:(pre.flatMap (fun x=>C x.val)).length<=1984*pre.length:=by
   have h9:∀q:List (Fin (nCh size n)),(q.flatMap (fun x=>C x.val)).length<=1984*q.length:=fun q=>by
    induction q with
    |nil=>simp
    |cons x t ih=>
     have hx:(C x.val).length<=1984:=by rw[hC];exact lkZ hsm h2 x.val
     rw[List.flatMap_cons,List.length_append,List.length_cons]
     omega
   exact h9 pre
  have hle:=rqZ (n:=n) h1
  have HSN:Hid (nZ n++(pre++ [(⟨k,hk⟩:Fin (nCh size n))]).flatMap (fun x=>nZ (C x.val).length)=nZ n++pre.flatMap (fun x=>nZ (C x.val).length)++nZ (C k).length):=by show _=_;simp
  have HSB:Hid ((pre++ [(⟨k,hk⟩:Fin (nCh size n))]).flatMap (fun x=>C x.val)=pre.flatMap (fun x=>C x.val)++C k):=by show _=_;simp
  have hcv2:chV b off size n (⟨k,hk⟩:Fin (nCh size n)).val= .slice (some ⟨b,off+i,none⟩) z z:=hcv
  rw[hcv2]
  generalize nZ n++pre.flatMap (fun x=>nZ (C x.val).length)=H0 at *
  generalize pre.flatMap (fun x=>C x.val)=B0 at *
  have DNC:=hid (fun wx=>pcZ wx (C k).length (by omega))
  have hnc':=rZ (x:=(C k).length) (by omega)
  have u3:IntKind.u64.wrap ((C k).length:Int)=((C k).length:Int):=by rw[IntKind.wrap_u64];omega
  generalize C k=CK at *
  generalize nZ CK.length=NC at *
  obtain⟨AH,cH,rfl⟩:=bZ hS.oH
  obtain⟨AB,cB,rfl⟩:=bZ hS.oB
  have HS:=hid hS
  have HBW:=hid hB
  clear hcv hcv2 hrow hcl hC hbH hbB hbs hbn hb4 hsz HO0 HB0 hsm hS hB hi hz
  gi_wp2_with fail
  refine⟨trivial,(CallsIn.inRound l (callsIn_wide.2 DB.out)).mono ?_⟩
  rintro e w5 ⟨v5,rfl,ho5,hb5⟩
  obtain⟨A5,c5,rfl⟩:=bZ ho5
  have HO5:=hid ho5
  have HB5:=hid hb5
  have HS5:=hid (HS.out.step hb5)
  have r0:=HS5.out.kH.cell 0
  have r1:=HS5.out.kH.frozen 0
  simp only[List.getElem?_toArray,List.getElem?_cons_zero]at r0
  have HSR:Hid (∀wx,Below w5.heap.size w5 wx->DS w.heap.size w2.heap.size (.slice A n c) (.int .i64 (size:Nat)) H0 B0 (.slice AH H0.length cH) (.slice AB B0.length cB) wx):=fun wx h=>HS5.out.step h
  clear ho5 hb5 DB
  gi_wp2_with fail
  refine wpIn_region_any (by kernel_rfl) ?_
  change wpAnyIn _ _ _ _ _ _ _ _ _ (World.drew _)
  refine wpAnyIn_ready (rs:= [0,1]) (by kernel_rfl) (by simp) (AllReadyIn.cons rfl (fun K hK=> ?_) (AllReadyIn.cons rfl (fun K hK=> ?_) AllReadyIn.nil))
  ·go_simp;refine hK _ _ ?_;clear hK K
   refine wpAnyIn_ready (rs:= [1]) (by kernel_rfl) (by simp) (AllReadyIn.cons rfl (fun K hK=> ?_) AllReadyIn.nil);go_simp;refine hK _ _ ?_;clear hK K
   refine wpAnyIn_ready (rs:= [2]) (by kernel_rfl) (by simp) (AllReadyIn.cons rfl (fun K hK=> ?_) AllReadyIn.nil);go_simp;refine hK _ _ ?_;clear hK K
   refine wpAnyIn_ready (rs:= [3]) (by kernel_rfl) (by simp) (AllReadyIn.cons rfl (fun K hK=> ?_) AllReadyIn.nil);go_simp;refine hK _ _ ?_;clear hK K
   refine wpAnyIn_ready (rs:= [4]) (by kernel_rfl) (by simp) (AllReadyIn.cons rfl (fun K hK=> ?_) AllReadyIn.nil);go_simp;refine⟨trivial,(CallsIn.inRound l (callsIn_wide.2 (DNC.out _))).mono ?_⟩;rintro e w6 ⟨v6,rfl,ho6,hb6⟩;obtain⟨A6,c6,rfl⟩:=bZ ho6;have b6:Below w5.heap.size w5 w6:=iZ hb6 (Nat.le_refl _) (Below.drew (Below.refl _ _));have S6:=HSR.out w6 b6;have hz6:w.heap.size<=w6.heap.size:=Nat.le_trans (Nat.le_trans HBW.out.size HB5.out.size) b6.size;have p0:=S6.kH.cell 0;have S6s:=lbZ ho6;simp only[List.getElem?_toArray,List.getElem?_cons_zero]at p0;go_simp;refine hK _ _ ?_;clear hK K
   refine wpAnyIn_ready (rs:= [5]) (by kernel_rfl) (by simp) (AllReadyIn.cons rfl (fun K hK=> ?_) AllReadyIn.nil);refine ciZ rfl (.tmp 31) (.tmp 35) 22 rfl w.heap.size 5 j0 _ 1 1 Tryz.underlying22 hj0 hy0 hy1 hy2 rfl (by decide) _ _ _ (by rfl) S6.oH _ _ _ _ (by rfl) S6s (wZ _ _) (by unfold maxLen;omega) (by omega) hz6 ?_;intro A7 c7 w7 hown7 hg7 hat7;have S7:=hid (S6.head hg7 hown7 hat7);have B7:=S6.kH.grown hg7 (Ne.symm (jZ S6.oH S6.kH (by decide)));have q0:=B7.cell 0;have q1:=B7.frozen 0;simp only[List.getElem?_toArray,List.getElem?_cons_zero]at q0;simp only[Act.put];refine hK _ _ ?_;clear hK K
   refine wpAnyIn_ready (rs:= [6]) (by kernel_rfl) (by simp) (AllReadyIn.cons rfl (fun K hK=> ?_) AllReadyIn.nil);go_simp;refine hK _ _ ?_;clear hK K
   refine wpAnyIn_done (by kernel_rfl) ?_ _
   have S8:=S7.out.1
   have o56:=eZ HO5.out (fun y hy=>b6.block y (World.ownsRow.lt HO5.out y hy).2)
   have ap5:Apt (.slice AH H0.length cH) (.slice A5 CK.length c5):=(miZ HO5.out (Nat.le_refl _) (fun x hx=>(World.ownsRow.lt HS.out.oH x hx).2)).symm
   have o57:=(udZ o56 ap5 hg7 hat7).1
   have o58:=own_far o57 (jZ o57 B7 (by decide)) (.slice A7 (H0.length+NC.length) c7)
   have hz8:w.heap.size<=(w7.setCell ⟨w2.heap.size,0,none⟩ (.slice A7 (H0.length+NC.length) c7)).heap.size:=Nat.le_trans hz6 S7.out.2.2.2.size
   have t2:=S8.kB.cell 0
   simp only[List.getElem?_toArray,List.getElem?_cons_zero]at t2
   have S8s:=lbZ o58
   have S8':=hid S8
   clear hg7 hat7 hown7 o56 o57 o58 ap5 B7 q0 q1 p0 r0 r1 S6 S6s
   gi_wp2_with (gi_at_builtin;refine lgZ rfl (.tmp 37) (.tmp 38) 22 rfl w.heap.size 5 j0 _ 1 1 Tryz.underlying22 hj0 hy0 hy1 hy2 rfl (by decide) _ _ _ (by rfl) S8'.out.oB _ _ _ _ (by rfl) S8s (wZ _ _) (by unfold maxLen;omega) (by omega) hz8 ?_;intro A9 c9 w9 hown9 hg9 hat9;have S9:=hid (S8'.out.body hg9 hown9 hat9);have B9:=S8'.out.kB.grown hg9 (Ne.symm (jZ S8'.out.oB S8'.out.kB (by decide)));have t0:=B9.cell 0;have t1:=B9.frozen 0;simp only[List.getElem?_toArray,List.getElem?_cons_zero]at t0)
   have K9:Hid (KeepsOthers W (w9.setCell ⟨w2.heap.size+1,0,none⟩ (.slice A9 (B0.length+CK.length) c9))/\KpC w.heap.size (w2.heap.size+1+1) W (w9.setCell ⟨w2.heap.size+1,0,none⟩ (.slice A9 (B0.length+CK.length) c9))/\Below w.heap.size w (w9.setCell ⟨w2.heap.size+1,0,none⟩ (.slice A9 (B0.length+CK.length) c9))):=
    ⟨(zcZ HB5.out).trans ((zcZ b6).trans (S7.out.2.1.trans S9.out.2.1)),cfZ (HS.out.keeps HB5.out) (cfZ (HS5.out.keeps b6) (cfZ S7.out.2.2.1 S9.out.2.2.1)),(((HBW.out.trans (HB5.out.mono HBW.out.size)).trans (b6.mono (Nat.le_trans HBW.out.size HB5.out.size))).trans S7.out.2.2.2).trans S9.out.2.2.2⟩
   exact⟨K9.out.1,K9.out.2.1,⟨_,_,by rw[HSN.out,HSB.out];exact S9.out.1⟩,K9.out.2.2⟩
  ·go_simp;refine hK _ _ ?_;clear hK K
   refine wpAnyIn_ready (rs:= [0,2]) (by kernel_rfl) (by simp) (AllReadyIn.cons rfl (fun K hK=> ?_) (AllReadyIn.cons rfl (fun K hK=> ?_) AllReadyIn.nil))
   ·go_simp;refine hK _ _ ?_;clear hK K
    refine wpAnyIn_ready (rs:= [2]) (by kernel_rfl) (by simp) (AllReadyIn.cons rfl (fun K hK=> ?_) AllReadyIn.nil);go_simp;refine hK _ _ ?_;clear hK K
    refine wpAnyIn_ready (rs:= [3]) (by kernel_rfl) (by simp) (AllReadyIn.cons rfl (fun K hK=> ?_) AllReadyIn.nil);go_simp;refine hK _ _ ?_;clear hK K
    refine wpAnyIn_ready (rs:= [4]) (by kernel_rfl) (by simp) (AllReadyIn.cons rfl (fun K hK=> ?_) AllReadyIn.nil);go_simp;refine⟨trivial,(CallsIn.inRound l (callsIn_wide.2 (DNC.out _))).mono ?_⟩;rintro e w6 ⟨v6,rfl,ho6,hb6⟩;obtain⟨A6,c6,rfl⟩:=bZ ho6;have b6:Below w5.heap.size w5 w6:=iZ hb6 (Nat.le_refl _) (Below.drew (Below.refl _ _));have S6:=HSR.out w6 b6;have hz6:w.heap.size<=w6.heap.size:=Nat.le_trans (Nat.le_trans HBW.out.size HB5.out.size) b6.size;have p0:=S6.kH.cell 0;have S6s:=lbZ ho6;simp only[List.getElem?_toArray,List.getElem?_cons_zero]at p0;go_simp;refine hK _ _ ?_;clear hK K
    refine wpAnyIn_ready (rs:= [5]) (by kernel_rfl) (by simp) (AllReadyIn.cons rfl (fun K hK=> ?_) AllReadyIn.nil);refine ciZ rfl (.tmp 31) (.tmp 35) 22 rfl w.heap.size 5 j0 _ 1 1 Tryz.underlying22 hj0 hy0 hy1 hy2 rfl (by decide) _ _ _ (by rfl) S6.oH _ _ _ _ (by rfl) S6s (wZ _ _) (by unfold maxLen;omega) (by omega) hz6 ?_;intro A7 c7 w7 hown7 hg7 hat7;have S7:=hid (S6.head hg7 hown7 hat7);have B7:=S6.kH.grown hg7 (Ne.symm (jZ S6.oH S6.kH (by decide)));have q0:=B7.cell 0;have q1:=B7.frozen 0;simp only[List.getElem?_toArray,List.getElem?_cons_zero]at q0;simp only[Act.put];refine hK _ _ ?_;clear hK K
    refine wpAnyIn_ready (rs:= [6]) (by kernel_rfl) (by simp) (AllReadyIn.cons rfl (fun K hK=> ?_) AllReadyIn.nil);go_simp;refine hK _ _ ?_;clear hK K
    refine wpAnyIn_done (by kernel_rfl) ?_ _
    have S8:=S7.out.1
    have o56:=eZ HO5.out (fun y hy=>b6.block y (World.ownsRow.lt HO5.out y hy).2)
    have ap5:Apt (.slice AH H0.length cH) (.slice A5 CK.length c5):=(miZ HO5.out (Nat.le_refl _) (fun x hx=>(World.ownsRow.lt HS.out.oH x hx).2)).symm
    have o57:=(udZ o56 ap5 hg7 hat7).1
    have o58:=own_far o57 (jZ o57 B7 (by decide)) (.slice A7 (H0.length+NC.length) c7)
    have hz8:w.heap.size<=(w7.setCell ⟨w2.heap.size,0,none⟩ (.slice A7 (H0.length+NC.length) c7)).heap.size:=Nat.le_trans hz6 S7.out.2.2.2.size
    have t2:=S8.kB.cell 0
    simp only[List.getElem?_toArray,List.getElem?_cons_zero]at t2
    have S8s:=lbZ o58
    have S8':=hid S8
    clear hg7 hat7 hown7 o56 o57 o58 ap5 B7 q0 q1 p0 r0 r1 S6 S6s
    gi_wp2_with (gi_at_builtin;refine lgZ rfl (.tmp 37) (.tmp 38) 22 rfl w.heap.size 5 j0 _ 1 1 Tryz.underlying22 hj0 hy0 hy1 hy2 rfl (by decide) _ _ _ (by rfl) S8'.out.oB _ _ _ _ (by rfl) S8s (wZ _ _) (by unfold maxLen;omega) (by omega) hz8 ?_;intro A9 c9 w9 hown9 hg9 hat9;have S9:=hid (S8'.out.body hg9 hown9 hat9);have B9:=S8'.out.kB.grown hg9 (Ne.symm (jZ S8'.out.oB S8'.out.kB (by decide)));have t0:=B9.cell 0;have t1:=B9.frozen 0;simp only[List.getElem?_toArray,List.getElem?_cons_zero]at t0)
    have K9:Hid (KeepsOthers W (w9.setCell ⟨w2.heap.size+1,0,none⟩ (.slice A9 (B0.length+CK.length) c9))/\KpC w.heap.size (w2.heap.size+1+1) W (w9.setCell ⟨w2.heap.size+1,0,none⟩ (.slice A9 (B0.length+CK.length) c9))/\Below w.heap.size w (w9.setCell ⟨w2.heap.size+1,0,none⟩ (.slice A9 (B0.length+CK.length) c9))):=
     ⟨(zcZ HB5.out).trans ((zcZ b6).trans (S7.out.2.1.trans S9.out.2.1)),cfZ (HS.out.keeps HB5.out) (cfZ (HS5.out.keeps b6) (cfZ S7.out.2.2.1 S9.out.2.2.1)),(((HBW.out.trans (HB5.out.mono HBW.out.size)).trans (b6.mono (Nat.le_trans HBW.out.size HB5.out.size))).trans S7.out.2.2.2).trans S9.out.2.2.2⟩
    exact⟨K9.out.1,K9.out.2.1,⟨_,_,by rw[HSN.out,HSB.out];exact S9.out.1⟩,K9.out.2.2⟩
   ·go_simp;refine hK _ _ ?_;clear hK K
    refine wpAnyIn_ready (rs:= [0,3]) (by kernel_rfl) (by simp) (AllReadyIn.cons rfl (fun K hK=> ?_) (AllReadyIn.cons rfl (fun K hK=> ?_) AllReadyIn.nil))
    ·go_simp;refine hK _ _ ?_;clear hK K
     refine wpAnyIn_ready (rs:= [3]) (by kernel_rfl) (by simp) (AllReadyIn.cons rfl (fun K hK=> ?_) AllReadyIn.nil);go_simp;refine hK _ _ ?_;clear hK K
     refine wpAnyIn_ready (rs:= [4]) (by kernel_rfl) (by simp) (AllReadyIn.cons rfl (fun K hK=> ?_) AllReadyIn.nil);go_simp;refine⟨trivial,(CallsIn.inRound l (callsIn_wide.2 (DNC.out _))).mono ?_⟩;rintro e w6 ⟨v6,rfl,ho6,hb6⟩;obtain⟨A6,c6,rfl⟩:=bZ ho6;have b6:Below w5.heap.size w5 w6:=iZ hb6 (Nat.le_refl _) (Below.drew (Below.refl _ _));have S6:=HSR.out w6 b6;have hz6:w.heap.size<=w6.heap.size:=Nat.le_trans (Nat.le_trans HBW.out.size HB5.out.size) b6.size;have p0:=S6.kH.cell 0;have S6s:=lbZ ho6;simp only[List.getElem?_toArray,List.getElem?_cons_zero]at p0;go_simp;refine hK _ _ ?_;clear hK K
     refine wpAnyIn_ready (rs:= [5]) (by kernel_rfl) (by simp) (AllReadyIn.cons rfl (fun K hK=> ?_) AllReadyIn.nil);refine ciZ rfl (.tmp 31) (.tmp 35) 22 rfl w.heap.size 5 j0 _ 1 1 Tryz.underlying22 hj0 hy0 hy1 hy2 rfl (by decide) _ _ _ (by rfl) S6.oH _ _ _ _ (by rfl) S6s (wZ _ _) (by unfold maxLen;omega) (by omega) hz6 ?_;intro A7 c7 w7 hown7 hg7 hat7;have S7:=hid (S6.head hg7 hown7 hat7);have B7:=S6.kH.grown hg7 (Ne.symm (jZ S6.oH S6.kH (by decide)));have q0:=B7.cell 0;have q1:=B7.frozen 0;simp only[List.getElem?_toArray,List.getElem?_cons_zero]at q0;simp only[Act.put];refine hK _ _ ?_;clear hK K
     refine wpAnyIn_ready (rs:= [6]) (by kernel_rfl) (by simp) (AllReadyIn.cons rfl (fun K hK=> ?_) AllReadyIn.nil);go_simp;refine hK _ _ ?_;clear hK K
     refine wpAnyIn_done (by kernel_rfl) ?_ _
     have S8:=S7.out.1
     have o56:=eZ HO5.out (fun y hy=>b6.block y (World.ownsRow.lt HO5.out y hy).2)
     have ap5:Apt (.slice AH H0.length cH) (.slice A5 CK.length c5):=(miZ HO5.out (Nat.le_refl _) (fun x hx=>(World.ownsRow.lt HS.out.oH x hx).2)).symm
     have o57:=(udZ o56 ap5 hg7 hat7).1
     have o58:=own_far o57 (jZ o57 B7 (by decide)) (.slice A7 (H0.length+NC.length) c7)
     have hz8:w.heap.size<=(w7.setCell ⟨w2.heap.size,0,none⟩ (.slice A7 (H0.length+NC.length) c7)).heap.size:=Nat.le_trans hz6 S7.out.2.2.2.size
     have t2:=S8.kB.cell 0
     simp only[List.getElem?_toArray,List.getElem?_cons_zero]at t2
     have S8s:=lbZ o58
     have S8':=hid S8
     clear hg7 hat7 hown7 o56 o57 o58 ap5 B7 q0 q1 p0 r0 r1 S6 S6s
     gi_wp2_with (gi_at_builtin;refine lgZ rfl (.tmp 37) (.tmp 38) 22 rfl w.heap.size 5 j0 _ 1 1 Tryz.underlying22 hj0 hy0 hy1 hy2 rfl (by decide) _ _ _ (by rfl) S8'.out.oB _ _ _ _ (by rfl) S8s (wZ _ _) (by unfold maxLen;omega) (by omega) hz8 ?_;intro A9 c9 w9 hown9 hg9 hat9;have S9:=hid (S8'.out.body hg9 hown9 hat9);have B9:=S8'.out.kB.grown hg9 (Ne.symm (jZ S8'.out.oB S8'.out.kB (by decide)));have t0:=B9.cell 0;have t1:=B9.frozen 0;simp only[List.getElem?_toArray,List.getElem?_cons_zero]at t0)
     have K9:Hid (KeepsOthers W (w9.setCell ⟨w2.heap.size+1,0,none⟩ (.slice A9 (B0.length+CK.length) c9))/\KpC w.heap.size (w2.heap.size+1+1) W (w9.setCell ⟨w2.heap.size+1,0,none⟩ (.slice A9 (B0.length+CK.length) c9))/\Below w.heap.size w (w9.setCell ⟨w2.heap.size+1,0,none⟩ (.slice A9 (B0.length+CK.length) c9))):=
      ⟨(zcZ HB5.out).trans ((zcZ b6).trans (S7.out.2.1.trans S9.out.2.1)),cfZ (HS.out.keeps HB5.out) (cfZ (HS5.out.keeps b6) (cfZ S7.out.2.2.1 S9.out.2.2.1)),(((HBW.out.trans (HB5.out.mono HBW.out.size)).trans (b6.mono (Nat.le_trans HBW.out.size HB5.out.size))).trans S7.out.2.2.2).trans S9.out.2.2.2⟩
     exact⟨K9.out.1,K9.out.2.1,⟨_,_,by rw[HSN.out,HSB.out];exact S9.out.1⟩,K9.out.2.2⟩
    ·go_simp;refine hK _ _ ?_;clear hK K
     refine wpAnyIn_ready (rs:= [0,4]) (by kernel_rfl) (by simp) (AllReadyIn.cons rfl (fun K hK=> ?_) (AllReadyIn.cons rfl (fun K hK=> ?_) AllReadyIn.nil))
     ·go_simp;refine hK _ _ ?_;clear hK K
      refine wpAnyIn_ready (rs:= [4]) (by kernel_rfl) (by simp) (AllReadyIn.cons rfl (fun K hK=> ?_) AllReadyIn.nil);go_simp;refine⟨trivial,(CallsIn.inRound l (callsIn_wide.2 (DNC.out _))).mono ?_⟩;rintro e w6 ⟨v6,rfl,ho6,hb6⟩;obtain⟨A6,c6,rfl⟩:=bZ ho6;have b6:Below w5.heap.size w5 w6:=iZ hb6 (Nat.le_refl _) (Below.drew (Below.refl _ _));have S6:=HSR.out w6 b6;have hz6:w.heap.size<=w6.heap.size:=Nat.le_trans (Nat.le_trans HBW.out.size HB5.out.size) b6.size;have p0:=S6.kH.cell 0;have S6s:=lbZ ho6;simp only[List.getElem?_toArray,List.getElem?_cons_zero]at p0;go_simp;refine hK _ _ ?_;clear hK K
      refine wpAnyIn_ready (rs:= [5]) (by kernel_rfl) (by simp) (AllReadyIn.cons rfl (fun K hK=> ?_) AllReadyIn.nil);refine ciZ rfl (.tmp 31) (.tmp 35) 22 rfl w.heap.size 5 j0 _ 1 1 Tryz.underlying22 hj0 hy0 hy1 hy2 rfl (by decide) _ _ _ (by rfl) S6.oH _ _ _ _ (by rfl) S6s (wZ _ _) (by unfold maxLen;omega) (by omega) hz6 ?_;intro A7 c7 w7 hown7 hg7 hat7;have S7:=hid (S6.head hg7 hown7 hat7);have B7:=S6.kH.grown hg7 (Ne.symm (jZ S6.oH S6.kH (by decide)));have q0:=B7.cell 0;have q1:=B7.frozen 0;simp only[List.getElem?_toArray,List.getElem?_cons_zero]at q0;simp only[Act.put];refine hK _ _ ?_;clear hK K
      refine wpAnyIn_ready (rs:= [6]) (by kernel_rfl) (by simp) (AllReadyIn.cons rfl (fun K hK=> ?_) AllReadyIn.nil);go_simp;refine hK _ _ ?_;clear hK K
      refine wpAnyIn_done (by kernel_rfl) ?_ _
      have S8:=S7.out.1
      have o56:=eZ HO5.out (fun y hy=>b6.block y (World.ownsRow.lt HO5.out y hy).2)
      have ap5:Apt (.slice AH H0.length cH) (.slice A5 CK.length c5):=(miZ HO5.out (Nat.le_refl _) (fun x hx=>(World.ownsRow.lt HS.out.oH x hx).2)).symm
      have o57:=(udZ o56 ap5 hg7 hat7).1
      have o58:=own_far o57 (jZ o57 B7 (by decide)) (.slice A7 (H0.length+NC.length) c7)
      have hz8:w.heap.size<=(w7.setCell ⟨w2.heap.size,0,none⟩ (.slice A7 (H0.length+NC.length) c7)).heap.size:=Nat.le_trans hz6 S7.out.2.2.2.size
      have t2:=S8.kB.cell 0
      simp only[List.getElem?_toArray,List.getElem?_cons_zero]at t2
      have S8s:=lbZ o58
      have S8':=hid S8
      clear hg7 hat7 hown7 o56 o57 o58 ap5 B7 q0 q1 p0 r0 r1 S6 S6s
      gi_wp2_with (gi_at_builtin;refine lgZ rfl (.tmp 37) (.tmp 38) 22 rfl w.heap.size 5 j0 _ 1 1 Tryz.underlying22 hj0 hy0 hy1 hy2 rfl (by decide) _ _ _ (by rfl) S8'.out.oB _ _ _ _ (by rfl) S8s (wZ _ _) (by unfold maxLen;omega) (by omega) hz8 ?_;intro A9 c9 w9 hown9 hg9 hat9;have S9:=hid (S8'.out.body hg9 hown9 hat9);have B9:=S8'.out.kB.grown hg9 (Ne.symm (jZ S8'.out.oB S8'.out.kB (by decide)));have t0:=B9.cell 0;have t1:=B9.frozen 0;simp only[List.getElem?_toArray,List.getElem?_cons_zero]at t0)
      have K9:Hid (KeepsOthers W (w9.setCell ⟨w2.heap.size+1,0,none⟩ (.slice A9 (B0.length+CK.length) c9))/\KpC w.heap.size (w2.heap.size+1+1) W (w9.setCell ⟨w2.heap.size+1,0,none⟩ (.slice A9 (B0.length+CK.length) c9))/\Below w.heap.size w (w9.setCell ⟨w2.heap.size+1,0,none⟩ (.slice A9 (B0.length+CK.length) c9))):=
       ⟨(zcZ HB5.out).trans ((zcZ b6).trans (S7.out.2.1.trans S9.out.2.1)),cfZ (HS.out.keeps HB5.out) (cfZ (HS5.out.keeps b6) (cfZ S7.out.2.2.1 S9.out.2.2.1)),(((HBW.out.trans (HB5.out.mono HBW.out.size)).trans (b6.mono (Nat.le_trans HBW.out.size HB5.out.size))).trans S7.out.2.2.2).trans S9.out.2.2.2⟩
      exact⟨K9.out.1,K9.out.2.1,⟨_,_,by rw[HSN.out,HSB.out];exact S9.out.1⟩,K9.out.2.2⟩
     ·go_simp;refine⟨trivial,(CallsIn.inRound l (callsIn_wide.2 (DNC.out _))).mono ?_⟩;rintro e w6 ⟨v6,rfl,ho6,hb6⟩;obtain⟨A6,c6,rfl⟩:=bZ ho6;have b6:Below w5.heap.size w5 w6:=iZ hb6 (Nat.le_refl _) (Below.drew (Below.refl _ _));have S6:=HSR.out w6 b6;have hz6:w.heap.size<=w6.heap.size:=Nat.le_trans (Nat.le_trans HBW.out.size HB5.out.size) b6.size;have p0:=S6.kH.cell 0;have S6s:=lbZ ho6;simp only[List.getElem?_toArray,List.getElem?_cons_zero]at p0;go_simp;refine hK _ _ ?_;clear hK K
      refine wpAnyIn_ready (rs:= [0]) (by kernel_rfl) (by simp) (AllReadyIn.cons rfl (fun K hK=> ?_) AllReadyIn.nil);go_simp;refine hK _ _ ?_;clear hK K
      refine wpAnyIn_ready (rs:= [5]) (by kernel_rfl) (by simp) (AllReadyIn.cons rfl (fun K hK=> ?_) AllReadyIn.nil);refine ciZ rfl (.tmp 31) (.tmp 35) 22 rfl w.heap.size 5 j0 _ 1 1 Tryz.underlying22 hj0 hy0 hy1 hy2 rfl (by decide) _ _ _ (by rfl) S6.oH _ _ _ _ (by rfl) S6s (wZ _ _) (by unfold maxLen;omega) (by omega) hz6 ?_;intro A7 c7 w7 hown7 hg7 hat7;have S7:=hid (S6.head hg7 hown7 hat7);have B7:=S6.kH.grown hg7 (Ne.symm (jZ S6.oH S6.kH (by decide)));have q0:=B7.cell 0;have q1:=B7.frozen 0;simp only[List.getElem?_toArray,List.getElem?_cons_zero]at q0;simp only[Act.put];refine hK _ _ ?_;clear hK K
      refine wpAnyIn_ready (rs:= [6]) (by kernel_rfl) (by simp) (AllReadyIn.cons rfl (fun K hK=> ?_) AllReadyIn.nil);go_simp;refine hK _ _ ?_;clear hK K
      refine wpAnyIn_done (by kernel_rfl) ?_ _
      have S8:=S7.out.1
      have o56:=eZ HO5.out (fun y hy=>b6.block y (World.ownsRow.lt HO5.out y hy).2)
      have ap5:Apt (.slice AH H0.length cH) (.slice A5 CK.length c5):=(miZ HO5.out (Nat.le_refl _) (fun x hx=>(World.ownsRow.lt HS.out.oH x hx).2)).symm
      have o57:=(udZ o56 ap5 hg7 hat7).1
      have o58:=own_far o57 (jZ o57 B7 (by decide)) (.slice A7 (H0.length+NC.length) c7)
      have hz8:w.heap.size<=(w7.setCell ⟨w2.heap.size,0,none⟩ (.slice A7 (H0.length+NC.length) c7)).heap.size:=Nat.le_trans hz6 S7.out.2.2.2.size
      have t2:=S8.kB.cell 0
      simp only[List.getElem?_toArray,List.getElem?_cons_zero]at t2
      have S8s:=lbZ o58
      have S8':=hid S8
      clear hg7 hat7 hown7 o56 o57 o58 ap5 B7 q0 q1 p0 r0 r1 S6 S6s
      gi_wp2_with (gi_at_builtin;refine lgZ rfl (.tmp 37) (.tmp 38) 22 rfl w.heap.size 5 j0 _ 1 1 Tryz.underlying22 hj0 hy0 hy1 hy2 rfl (by decide) _ _ _ (by rfl) S8'.out.oB _ _ _ _ (by rfl) S8s (wZ _ _) (by unfold maxLen;omega) (by omega) hz8 ?_;intro A9 c9 w9 hown9 hg9 hat9;have S9:=hid (S8'.out.body hg9 hown9 hat9);have B9:=S8'.out.kB.grown hg9 (Ne.symm (jZ S8'.out.oB S8'.out.kB (by decide)));have t0:=B9.cell 0;have t1:=B9.frozen 0;simp only[List.getElem?_toArray,List.getElem?_cons_zero]at t0)
      have K9:Hid (KeepsOthers W (w9.setCell ⟨w2.heap.size+1,0,none⟩ (.slice A9 (B0.length+CK.length) c9))/\KpC w.heap.size (w2.heap.size+1+1) W (w9.setCell ⟨w2.heap.size+1,0,none⟩ (.slice A9 (B0.length+CK.length) c9))/\Below w.heap.size w (w9.setCell ⟨w2.heap.size+1,0,none⟩ (.slice A9 (B0.length+CK.length) c9))):=
       ⟨(zcZ HB5.out).trans ((zcZ b6).trans (S7.out.2.1.trans S9.out.2.1)),cfZ (HS.out.keeps HB5.out) (cfZ (HS5.out.keeps b6) (cfZ S7.out.2.2.1 S9.out.2.2.1)),(((HBW.out.trans (HB5.out.mono HBW.out.size)).trans (b6.mono (Nat.le_trans HBW.out.size HB5.out.size))).trans S7.out.2.2.2).trans S9.out.2.2.2⟩
      exact⟨K9.out.1,K9.out.2.1,⟨_,_,by rw[HSN.out,HSB.out];exact S9.out.1⟩,K9.out.2.2⟩
 case done=>
  rintro D ys W hD hys ⟨⟨vH,vB,hS⟩,hB⟩ hK
  have hsm:∀s∈ls,s.length<=25:=fun s hs=>(ijZ HM.out s hs).2
  have eH:nZ n++ys.flatMap (fun x=>nZ (C x.val).length)=hdB size ls (nCh size n):=by
   unfold hdB
   rw[HN.out,hC,<-hys,List.flatMap_map]
  have eB:ys.flatMap (fun x=>C x.val)=bdB size ls (nCh size n):=by
   unfold bdB
   rw[hC,<-hys,List.flatMap_map]
  rw[eH,eB]at hS
  have HDO:Hid (agZ size ls=hdB size ls (nCh size n)++bdB size ls (nCh size n)):=by show _=_;rw[qpZ h1,HN.out];unfold hdB bdB;rw[HN.out]
  have l1:=snZ hsm h2 (by rw[HN.out];omega) (nCh size n)
  have l2:=dmZ hsm h1 (nCh size n)
  rw[HN.out]at l2
  have l3:=rqZ (n:=n) h1
  generalize hdB size ls (nCh size n)=HH at *
  generalize bdB size ls (nCh size n)=BB at *
  have l4:BB.length<=31*n:=by omega
  obtain⟨AH,cH,rfl⟩:=bZ hS.oH
  obtain⟨AB,cB,rfl⟩:=bZ hS.oB
  have P1:Part.Ok (⟨AH,cH,HH⟩:Part) W:=oZ hS.oH rfl
  have P2:Part.Ok (⟨AB,cB,BB⟩:Part) W:=oZ hS.oB rfl
  have hs2:xcZ [(⟨AH,cH,HH⟩:Part),⟨AB,cB,BB⟩]<=1000000:=by simp[xcZ];omega
  have d0:=hS.kH.cell 0
  have d1:=hS.kB.cell 0
  simp only[List.getElem?_toArray,List.getElem?_cons_zero]at d0 d1
  have HP1:=hid P1
  have HP2:=hid P2
  have HB:=hid hB
  have HK:=hid hK
  have hDW:=(Array.getElem?_eq_some_iff.1 hK).1
  clear eH eB hS P1 P2 hB hK hys l2 hsm hC hbH hbB hbs hbn HO0 hb4
  go_wp2_with fail
  refine(ffZ _ _ 2 [(⟨AH,cH,HH⟩:Part),⟨AB,cB,BB⟩] rfl (by omega) hs2 (fun p hp=>by rcases List.mem_cons.1 hp with rfl|hp;exact HP1.out.step (aZ (Below.refl _ _));rcases List.mem_cons.1 hp with rfl|hp;exact HP2.out.step (aZ (Below.refl _ _));cases hp) (Blk.made _ _ _)).mono ?_
  rintro e w9 ⟨v9,rfl,ho9,hb9⟩
  go_wp2_with fail
  have hK9:w9.heap[D]? =some (.deferred (some [])):=(hb9.block D (by simp;omega)).trans ((Below.heap_alloc _ _ D hDW).trans HK.out)
  have hDz:w.heap.size<=D:=by omega
  have ho9':=lZ ho9 (show w.heap.size<=_ by have:=HB.out.size;simp;omega)
  simp only[List.flatMap_cons,List.flatMap_nil,List.append_nil]at ho9'
  rw[<-HDO.out]at ho9'
  have hB9:Below w.heap.size w w9:=iZ hb9 (by have:=HB.out.size;simp;omega) (gZ HB.out.size HB.out)
  have hne:v9.ownBlock≠some D:=fun e=>by
   have h:=own_cells ho9' e hK9
   cases h
  refine⟨by simp, .inl ⟨_,_,rfl,run_takeDeferred hK9,?_⟩⟩
  refine⟨_,results_tmp2 rfl _ _ _,v9,rfl,?_,hB9.trans (belowK_b (w:=w) (Nat.le_refl _) w9 D _ _ hDz hK9 rfl rfl)⟩
  exact eZ ho9' fun y hy=>World.putObj_heap_other (fun e=>hne (by rw[hy,e]))
 case stop=>
  rintro D cc pre W _ _ h _
  exact h.elim
end Go.Proofs.YtbgoibedicbkjaaGreatDoor.Idx
