/- slices.Chunk of text -/
import Derived.Test.YtfgdoknipbpfhaaGreatDoorZTwoBack26
import Derived.RangeFuncNested
import Derived.RangeFuncBound
import Derived.RangeFuncCalls
import Derived.RangeFuncLeaves
import Derived.Shelf.Abstract
import Derived.Shelf.RegionOpen
import Derived.OwnWalkIn
import Derived.TacticsInMore
import Derived.LoopNIn
import Derived.LoopIn
namespace Go.Proofs.YtfgdoknipbpfhaaGreatDoor
open Go.Proofs.Tryz
open Go.Lib (hid)
set_option maxHeartbeats 4000000
set_option maxRecDepth 100000
variable{B Bs N base g k l m n s:Nat}{X Y w:World}{e:TypeId}{xs:List Value}
open Go.RowKit Go.Shelf
def chV(b off size n k:Nat):Value:= .slice (some ⟨b,off+k*size,none⟩) (min size (n-k*size)) (min size (n-k*size))
theorem W6(w:World)(A:Option Addr)(n c size:Nat)(h1:1<=size)(h2:size<=1000):
 Calls prog 170 #[.slice A n c, .int .i64 (size:Nat)] w fun e w'=>e= .returned (.func (.func 231) #[] #[.pointer (some ⟨w,0,none⟩), .pointer (some ⟨w.heap.size+1,0,none⟩)])/\w'=(w.alloc (.cells #[.slice A n c] 50)).alloc (.cells #[.int .i64 (size:Nat)] 3):=by
 have y1:=ig ((size:Int)<1)
 have h:=ig (size<1)
 go_enter func170,ntmps170;go_wp2_with fail;go_ret;exact⟨rfl,rfl⟩
theorem lY(b h n c i e:Nat)(he:1<=e)(hn:i+e<=n)(hc:n<=c)(w:World):
 (Instr.slice 50 (.slice (some ⟨b,h,none⟩) n c) (some (.int .i64 (i:Int))) (some (.int .i64 ((i:Int)+(e:Int)))) (some (.int .i64 ((i:Int)+(e:Int))))).run prog w= .ok (.slice (some ⟨b,h+i,none⟩) e e) w:=by
 have h0:prog.elem 50=9:=by simp[Program.elem,underlying50]
 have hs:(sizeOf 9).run prog w= .ok 1 w:=my
 rw[run_slice_lhm w 50 (some ⟨b,h,none⟩) n c (by rw[h0];exact underlying50) .i64 .i64 .i64 (i:Int) ((i:Int)+(e:Int)) ((i:Int)+(e:Int)) nj nj nj nj,h0,hs];have e1:((i:Int)+(e:Int)).toNat=i+e:=nj
 show Result.ok (sliced _ _ _ _ _) w=_;rw[e1,BD];unfold sliced;have e2:i+e-i=e:=nj
 rw[Aa nj,e2];simp[Gj]
def ID(N k:Nat):List (Fin N):=(List.finRange N).take k
theorem qR(h:k<N):ID N (k+1)=ID N k++ [⟨k,h⟩]:=by unfold ID;rw[Cw,Az sH];simp
theorem aM(h:k<=N):(ID N k).length=k:=by simp[ID];omega
theorem Z2(N:Nat):(ID N N).map Fin.val=List.range N:=by
 apply List.ext_getElem
 ·simp[ID]
 ·intro i h1 h2;simp[ID]
theorem rI(m:Nat)(l Bs Bn n c size N:Nat)(A:Option Addr)(b j:Nat)(hA:0<n->A=some ⟨b,j,none⟩)(h1:1<=size)(h2:size<=1000)(hn:n<=1000000)(hc:n<=c)(hN:∀k,k<N↔k*size<n)
 (Kp:World->World->Prop)(aa:∀W W',Kp W W'->W'.cell? ⟨Bs,0,none⟩=W.cell? ⟨Bs,0,none⟩/\W'.cell? ⟨Bn,0,none⟩=W.cell? ⟨Bn,0,none⟩)(J Jx:List (Fin N)->World->Prop)(hJ:∀pre W,J pre W->J pre W.drew)
 (hY:∀pre (x:Fin N) W,J pre W->pre.length<N->YieldAt Fence.wide (m-1) prog l #[chV b j size n x.val] W fun e W'=>(e= .returned (.bool true)/\J (pre++ [x]) W'/\Kp W W')∨(e= .returned (.bool false)/\Jx (pre++ [x]) W'))
 (W:World)(ak:W.cell? ⟨Bs,0,none⟩=some (.slice A n c))(aj:W.cell? ⟨Bn,0,none⟩=some (.int .i64 (size:Nat)))(h0:J [] W):
 CallsIn Fence.wide m prog 231 #[.func (.yield l) #[] #[], .pointer (some ⟨Bs,0,none⟩), .pointer (some ⟨Bn,0,none⟩)] W fun e W'=>(∃v,e= .returned v)/\
  ((∃ys:List (Fin N),ys.map Fin.val=List.range N/\J ys W')∨(∃pre,True/\Jx pre W')):=by
 refine callsIn_of_wp func231 rfl trivial ?_ rfl;simp only[ntmps231,List.size_toArray,List.length_cons,List.length_nil,Nat.reduceAdd,Nat.reduceSub,Array.replicate_succ,Array.replicate_zero,List.push_toArray,List.append_toArray,List.nil_append,List.cons_append]
 gi_wp2
 gi_loopw [4,5] (fun iv _ wr=>∃k i:Nat,k<=N/\i<=1001000/\iv= .int .i64 i/\Hid (i=k*size)/\Hid (J (ID N k) wr)/\wr.cell? ⟨Bs,0,none⟩=some (.slice A n c)/\wr.cell? ⟨Bn,0,none⟩=some (.int .i64 (size:Nat)))
  (fun iv _ _=>n+size-(intOf iv).toNat)
 case atStart=>exact⟨0,0,Bf _,nj,rfl,by show 0=_;omega,h0,ak,aj⟩
 case round=>
  obtain⟨k,i,hk,hi,rfl,HI,HJ,al,ai⟩:=hrel;by_cases af:i<n
  ·have y:k<N:=(hN k).2 (by rw[<-HI.out];exact af);obtain rfl:=hA nj;have gk:=ic ((i:Int)<n);have Z:=ic (i<n);have ks:=fun wx=>Gr (P:=prog) (t:=50) (s:=1) underlying50 (fun _=>by kernel_rfl) (some ⟨b,j,none⟩) n c .i64 (i:Int) i rfl nj wx;generalize AR (some ⟨b,j,none⟩) i c 1=A1 at *;obtain⟨en,E⟩:=ii (min size (n-i));have ah:1<=en:=nj;have ag:i+en<=n:=nj;have an:=fun wx=>lY b j n c i en ah ag hc wx;obtain⟨fn,am,Y,body,hy,hR⟩:=hY _ ⟨k,y⟩ wr.drew (hJ _ _ HJ.out) (by rw[aM hk];exact y);have M:chV b j size n k= .slice (some ⟨b,j+i,none⟩) en en:=(by unfold chV;rw[<-HI.out,E]);rw[M]at hy;have L:wr.drew.cell? ⟨Bs,0,none⟩=some (.slice (some ⟨b,j,none⟩) n c):=al;have G:wr.drew.cell? ⟨Bn,0,none⟩=some (.int .i64 (size:Nat)):=ai;have em:min (size:Int) ((n-i:Nat):Int)=(en:Int):=nj;have ae:Hid (i+size=(k+1)*size):=(by show _=_;rw[HI.out,Fk,Nat.one_mul]);have ac:=hid (qR y);clear M E
   gi_wp2
   gi_region
   gi_wp2
   refine⟨(fun h=>by cases h),?_⟩;refine hR.mono ?_;rintro e W3 (⟨rfl,z,Q⟩|⟨rfl,U⟩)
   ·obtain⟨q1,q2⟩:=aa _ _ Q;have r1:=q1.trans L;have r2:=q2.trans G;rw[<-ac.out]at z;have ab:=hid z;clear z Q q1 q2
    gi_wp2
    go_roundw
    case rel=>exact⟨k+1,i+size,nj,nj,by first|rfl|(simp;done)|go_num,ae.out,ab.out,r1,r2⟩
    case measure=>exact sG
   ·gi_wp2
    refine Bx (Cb rfl _ _ _) rfl ?_;exact⟨⟨_,rfl⟩, .inr ⟨_,trivial,U⟩⟩
  ·have gk:=ig ((i:Int)<n);have Z:=ig (i<n)
   have y:k=N:=by
    have:¬k<N:=fun h=>by have:=(hN k).1 h;have:=HI.out;omega
    omega
   subst y
   gi_wp2
   go_end0
   exact⟨⟨_,rfl⟩, .inl ⟨_,Z2 k,HJ.out⟩⟩
def KpC(B Bs:Nat)(W W':World):Prop:=∀k,k<B∨k=Bs∨k=Bs+1->W'.heap[k]? =W.heap[k]?
theorem FT{Z:World}(h:KpC B Bs X Y)(k:KpC B Bs Y Z):KpC B Bs X Z:=fun j hj=>(k j hj).trans (h j hj)
theorem eL{B Bs:Nat}{w:World}(hB:B<=w.heap.size)(hs:Bs+1<w.heap.size)(W:World)(l:Nat)(o o':Obj)(hl:w.heap.size<=l)(_:W.heap[l]? =some o)(_:o.isCells=false)(_:o.isWalk=false):KpC B Bs W (W.putObj l o'):=
 fun j hj=>World.putObj_heap_other nj
theorem pU(m B Bs n c size N:Nat)(A:Option Addr)(b i:Nat)(hA:0<n->A=some ⟨b,i,none⟩)(h1:1<=size)(h2:size<=1000)(hn:n<=1000000)(hc:n<=c)(hN:∀k,k<N↔k*size<n)
 (w:World)(hs:Bs+1<w.heap.size)(y:w.cell? ⟨Bs,0,none⟩=some (.slice A n c))(j:w.cell? ⟨Bs+1,0,none⟩=some (.int .i64 (size:Nat))):
 SeqStopsK Fence.wide m prog 231 #[.pointer (some ⟨Bs,0,none⟩), .pointer (some ⟨Bs+1,0,none⟩)] (fun x:Fin N=>#[chV b i size n x.val]) (KpC B Bs) (fun ys=>ys.map Fin.val=List.range N) (fun _=>True) N w:=
 fun l J Jx W hW hJ _ hY h0=>
  rI m l Bs (Bs+1) n c size N A b i hA h1 h2 hn hc hN (KpC B Bs) (fun X Y h=>⟨World.cell?_of_block (a:=⟨Bs,0,none⟩) (h Bs (.inr (.inl rfl))),World.cell?_of_block (a:=⟨Bs+1,0,none⟩) (h (Bs+1) (.inr (.inr rfl)))⟩) J Jx
   (fun pre V h=>hJ pre V V.drew none h ⟨rfl,rfl,rfl,Ak _,fun _ _ _=>rfl⟩ (fun _ e=>by cases e)) hY W ((hW.cell (p:=⟨Bs,0,none⟩) (by show Bs<_;omega)).trans y) ((hW.cell (p:=⟨Bs+1,0,none⟩) hs).trans j) h0
attribute [local go_sem] Oper.semAt_some
theorem Nj{row:Option Nat}(hg:X.grownBy Y row)(hr:∀r,row=some r->∃o:Obj,X.heap[r]? =some o/\o.isCells=false){t:TypeId}{cs:Array Value}(h:Blk X g t cs):Blk Y g t cs:=
 (hg.block g h.lt (fun e=>by obtain⟨o,ho,hc⟩:=hr g e.symm;unfold Blk at h;rw[h]at ho;cases ho;cases hc)).trans h
theorem UR{row:Option Nat}(hg:X.grownBy Y row)(hr:∀r,row=some r->∃o:Obj,X.heap[r]? =some o/\o.isCells=false){v:Value}(h:X.ownsRow base e s v n xs):Y.ownsRow base e s v n xs:=
 eZ h fun y hy=>hg.block y (Aj h y hy).2 fun ee=>by
  obtain⟨o,ho,hc⟩:=hr y ee.symm;rcases h.2 with ⟨rfl,_⟩|⟨g,i,cur,rfl,_,hh,_⟩
  ·cases hy
  ·simp[Value.ownBlock]at hy;subst hy;rw[hh]at ho;cases ho;cases hc
theorem Ac6{j:Nat}{v:Value}{o:Obj}(h:X.ownsRow base e s v n xs)(hv:v.ownBlock=some j)(ho:X.heap[j]? =some o):o.isCells=true:=by
 rcases h.2 with ⟨rfl,_⟩|⟨g,i,cur,rfl,_,hh,_⟩
 ·cases hv
 ·simp[Value.ownBlock]at hv;subst hv;rw[hh]at ho;cases ho;rfl
theorem If(h:Below X X Y):KeepsOthers X Y:=⟨h.size,fun k _ hk _=>(h.block k (Array.getElem?_eq_some_iff.1 hk).1).trans hk⟩
theorem Ag9{v:Value}(h:X.ownsRow base e s v n xs)(hg:v.ownBlock≠some g)(u:Value):(X.setCell ⟨g,0,none⟩ u).ownsRow base e s v n xs:=
 eZ h fun y hy=>AW _ _ _ y fun e=>hg rh
theorem KU{P:Program}{j:Array Oper}{o:Oper}{a:Act}{K:Act->World->Prop}{Q:Exit->Act->World->Prop}{E:Prop}(y:o.guard=none)(s x:Operand)(t:TypeId)
 (ho:o.op= .call {callee:= .builtin .append,args:=#[s,x],argTypes:=#[t,t] })
 (base:Nat)(e:TypeId)(i:TypeInfo)(z:Value)(size bytes:Nat)(ht:P.underlying t=some (.slice e))(hi:P.info? e=some i)(hz:i.zero=some z)
 (hsize:i.size=size)(hby:i.bytes=bytes)(hzs:z.cells.size=size)(hsz:0<size)
 (v:Value)(n:Nat)(xs:List Value)(hs:a.eval s=v)(hown:w.ownsRow base e size v n xs)
 (A:Option Addr)(k c:Nat)(news:List Value)(hx:a.eval x= .slice A k c)(hsrc:Src w A k c size news)(h1:∀u∈news,u.oneCell'=true)
 (h63:n+k<=maxLen)(hbytes:(n+k)*bytes<=140737488355328)(hbase:base<=w.heap.size)
 (h:∀A' c' w',w'.ownsRow base e size (.slice A' (n+k) c') (n+k) (xs++news)->w.grownBy w' v.ownBlock->((Value.slice A' (n+k) c').ownBlock=v.ownBlock∨(Value.slice A' (n+k) c').ownBlock=some w.heap.size)->K (a.put o.dst (.slice A' (n+k) c')) w'):
 if Region.wanted o (yielded j a.tmps)=true then Oper.wpIn (Fence.wide.inRound l) m P o a w K Q else E:=by
 have hw:Region.wanted o (yielded j a.tmps)=true:=by simp[Region.wanted,y]
 rw[Ab hw];obtain⟨v',w',hr,h2,h3,h5⟩:=J3 (P:=P) w base t o.type e i z size bytes ht hi hz hsize hby hzs hsz v n xs hown A k c news hsrc h1 h63 hbytes hbase;obtain⟨A',c',rfl⟩:=bZ h2;refine⟨fun _ _=>trivial,?_⟩;rw[Oper.semAt_eq _ _ _ (fun c hc=>by rw[ho]at hc;cases hc)];unfold execOp;simp only[ho,resolve,invoke,builtin,Sem.run_bind,Sem.run_pure,Result.andThen_ok,List.map_toArray,List.map_cons,List.map_nil,hs,hx,hr];exact h A' c' w' h2 h3 h5
theorem LH{P:Program}{j:Array Oper}{rest:List Oper}{o:Oper}{a:Act}{Q:Exit->Act->World->Prop}(y:o.guard=none)(s x:Operand)(t:TypeId)
 (ho:o.op= .call {callee:= .builtin .append,args:=#[s,x],argTypes:=#[t,t] })
 (base:Nat)(e:TypeId)(i:TypeInfo)(z:Value)(size bytes:Nat)(ht:P.underlying t=some (.slice e))(hi:P.info? e=some i)(hz:i.zero=some z)
 (hsize:i.size=size)(hby:i.bytes=bytes)(hzs:z.cells.size=size)(hsz:0<size)
 (v:Value)(n:Nat)(xs:List Value)(hs:a.eval s=v)(hown:w.ownsRow base e size v n xs)
 (A:Option Addr)(k c:Nat)(news:List Value)(hx:a.eval x= .slice A k c)(hsrc:Src w A k c size news)(h1:∀u∈news,u.oneCell'=true)
 (h63:n+k<=maxLen)(hbytes:(n+k)*bytes<=140737488355328)(hbase:base<=w.heap.size)
 (h:∀A' c' w',w'.ownsRow base e size (.slice A' (n+k) c') (n+k) (xs++news)->w.grownBy w' v.ownBlock->((Value.slice A' (n+k) c').ownBlock=v.ownBlock∨(Value.slice A' (n+k) c').ownBlock=some w.heap.size)->wpListIn (Fence.wide.inRound l) m P j Q rest (a.put o.dst (.slice A' (n+k) c')) w'):
 wpListIn (Fence.wide.inRound l) m P j Q (o :: rest) a w:=by
 refine wpListIn_plain y fun K hK=> ?_;obtain⟨v',w',hr,h2,h3,h5⟩:=J3 (P:=P) w base t o.type e i z size bytes ht hi hz hsize hby hzs hsz v n xs hown A k c news hsrc h1 h63 hbytes hbase;obtain⟨A',c',rfl⟩:=bZ h2;refine⟨fun _ _=>trivial,?_⟩;rw[Oper.semAt_eq _ _ _ (fun c hc=>by rw[ho]at hc;cases hc)];unfold execOp;simp only[ho,resolve,invoke,builtin,Sem.run_bind,Sem.run_pure,Result.andThen_ok,List.map_toArray,List.map_cons,List.map_nil,hs,hx,hr];exact hK _ _ (h A' c' w' h2 h3 h5)
structure DS (base hb:Nat) (vs vn:Value) (H B:List Nat) (vH vB:Value) (W:World):Prop where
 kH:Blk W hb 28 #[vH]
 kB:Blk W (hb+1) 28 #[vB]
 kS:Blk W (hb+1+1) 50 #[vs]
 kN:Blk W (hb+1+1+1) 3 #[vn]
 oH:W.ownsRow base 5 1 vH H.length (dZ .u8 H)
 oB:W.ownsRow base 5 1 vB B.length (dZ .u8 B)
 ap:Apt vH vB
 gb:base<=hb
section
variable {base hb:Nat} {vs vn vH vB v':Value} {H B X:List Nat} {W w':World}
theorem DS.step(h:DS base hb vs vn H B vH vB W)(b:Below W W w'):DS base hb vs vn H B vH vB w':=
 ⟨h.kH.step b,h.kB.step b,h.kS.step b,h.kN.step b,eZ h.oH fun y hy=>b.block y (Aj h.oH y hy).2,eZ h.oB fun y hy=>b.block y (Aj h.oB y hy).2,h.ap,h.gb⟩
theorem DS.keeps(h:DS base hb vs vn H B vH vB W)(b:Below W W w'):KpC base (hb+1+1) W w':=fun k hk=>by refine b.block k ?_;have:=h.kS.lt;have:=h.kN.lt;have:=h.gb;omega
theorem DS.head(h:DS base hb vs vn H B vH vB W)(g:W.grownBy w' vH.ownBlock)(o:w'.ownsRow base 5 1 v' (H.length+X.length) (dZ .u8 H++dZ .u8 X))(t:v'.ownBlock=vH.ownBlock∨v'.ownBlock=some W.heap.size):
 DS base hb vs vn (H++X) B v' vB (w'.setCell ⟨hb,0,none⟩ v')/\KeepsOthers W (w'.setCell ⟨hb,0,none⟩ v')/\KpC base (hb+1+1) W (w'.setCell ⟨hb,0,none⟩ v')/\Below base W (w'.setCell ⟨hb,0,none⟩ v'):=by
 have n1:some hb≠vH.ownBlock:=Ba (gZ h.oH h.kH ip);have n2:some (hb+1)≠vH.ownBlock:=Ba (gZ h.oH h.kB ip);have n3:some (hb+1+1)≠vH.ownBlock:=Ba (gZ h.oH h.kS ip);have n4:some (hb+1+1+1)≠vH.ownBlock:=Ba (gZ h.oH h.kN ip);have k1:=h.kH.grown g n1;have k2:=h.kB.grown g n2;have k3:=h.kS.grown g n3;have k4:=h.kN.grown g n4;obtain⟨z,E⟩:=Hr h.oB h.ap g t;have i:=h.gb;have l1:=h.kS.lt;have l2:=h.kN.lt;have ho:w'.ownsRow base 5 1 v' (H++X).length (dZ .u8 (H++X)):=by rw[Ag,show dZ .u8 (H++X)=dZ .u8 H++dZ .u8 X by simp[dZ]];exact o
 refine⟨⟨by simpa using k1.set 0 v',k2.far (by show hb+1≠hb;omega) _,k3.far (by show hb+1+1≠hb;omega) _,k4.far (by show hb+1+1+1≠hb;omega) _,Ag9 ho (gZ ho k1 ip) _,Ag9 z (gZ z k1 ip) _,E,i⟩,?_,fun k hk=> ?_,?_⟩
 ·exact(KeepsOthers.of_grownBy g fun j o e hj=>Ac6 h.oH e hj).trans (KeepsOthers.setCell _ _ _)
 ·refine(AW _ _ _ k (by show k≠hb;omega)).trans (g.block k nj fun e=> ?_);rcases hk with hk|hk|hk
  ·have:=(Aj h.oH k e.symm).1;omega
  ·exact n3 (hk ▸ e)
  ·exact n4 (hk ▸ e)
 ·exact((Ae base W).grown g nj fun y hy=>(Aj h.oH y hy).1).setCell (p:=⟨hb,0,none⟩) i _
theorem DS.body(h:DS base hb vs vn H B vH vB W)(g:W.grownBy w' vB.ownBlock)(o:w'.ownsRow base 5 1 v' (B.length+X.length) (dZ .u8 B++dZ .u8 X))(t:v'.ownBlock=vB.ownBlock∨v'.ownBlock=some W.heap.size):
 DS base hb vs vn H (B++X) vH v' (w'.setCell ⟨hb+1,0,none⟩ v')/\KeepsOthers W (w'.setCell ⟨hb+1,0,none⟩ v')/\KpC base (hb+1+1) W (w'.setCell ⟨hb+1,0,none⟩ v')/\Below base W (w'.setCell ⟨hb+1,0,none⟩ v'):=by
 have n1:some hb≠vB.ownBlock:=Ba (gZ h.oB h.kH ip);have n2:some (hb+1)≠vB.ownBlock:=Ba (gZ h.oB h.kB ip);have n3:some (hb+1+1)≠vB.ownBlock:=Ba (gZ h.oB h.kS ip);have n4:some (hb+1+1+1)≠vB.ownBlock:=Ba (gZ h.oB h.kN ip);have k1:=h.kH.grown g n1;have k2:=h.kB.grown g n2;have k3:=h.kS.grown g n3;have k4:=h.kN.grown g n4;obtain⟨i,E⟩:=Hr h.oH h.ap.symm g t;have z:=h.gb;have l1:=h.kS.lt;have l2:=h.kN.lt;have ho:w'.ownsRow base 5 1 v' (B++X).length (dZ .u8 (B++X)):=by rw[Ag,show dZ .u8 (B++X)=dZ .u8 B++dZ .u8 X by simp[dZ]];exact o
 refine⟨⟨k1.far (by show hb≠hb+1;omega) _,by simpa using k2.set 0 v',k3.far (by show hb+1+1≠hb+1;omega) _,k4.far (by show hb+1+1+1≠hb+1;omega) _,Ag9 i (gZ i k2 ip) _,Ag9 ho (gZ ho k2 ip) _,E.symm,z⟩,?_,fun k hk=> ?_,?_⟩
 ·exact(KeepsOthers.of_grownBy g fun j o e hj=>Ac6 h.oB e hj).trans (KeepsOthers.setCell _ _ _)
 ·refine(AW _ _ _ k (by show k≠hb+1;omega)).trans (g.block k nj fun e=> ?_);rcases hk with hk|hk|hk
  ·have:=(Aj h.oB k e.symm).1;omega
  ·exact n3 (hk ▸ e)
  ·exact n4 (hk ▸ e)
 ·exact((Ae base W).grown g nj fun y hy=>(Aj h.oB y hy).1).setCell (p:=⟨hb+1,0,none⟩) (by show base<=hb+1;omega) _
end
def DSt(base hb:Nat)(vs vn:Value)(H B:List Nat)(W:World):Prop:=∃vH vB,DS base hb vs vn H B vH vB W
theorem DSt.own{α:Type}(base hb:Nat)(vs vn:Value)(fH fB:α->List Nat):Own (fun(s:α) W=>DSt base hb vs vn (fH s) (fB s) W):=fun s X Y row hs hg hr=>by obtain⟨vH,vB,h⟩:=hs;exact⟨vH,vB,Nj hg hr h.kH,Nj hg hr h.kB,Nj hg hr h.kS,Nj hg hr h.kN,UR hg hr h.oH,UR hg hr h.oB,h.ap,h.gb⟩
theorem a0a{p:Prop}(h:p:=by
  go_simp;refine hK _ _ ?_;clear hK K;refine wpAnyIn_ready (rs:= [5]) my rX (AllReadyIn.cons rfl (fun K hK=> ?_) AllReadyIn.nil);refine KU rfl (.tmp 31) (.tmp 35) 28 rfl w 5 j0 _ 1 1 underlying28 am al ak aj rfl ip _ _ _ nm S6.oH _ _ _ _ nm ac (Ce _ _) sS nj af ?_;intro A7 c7 w7 G M E;have S7:=hid (S6.head M G E);have B7:=S6.kH.grown M (Ba (gZ S6.oH S6.kH ip));have q0:=B7.ia 0;have q1:=B7.frozen 0;simp only[Act.put];refine hK _ _ ?_;clear hK K;refine wpAnyIn_ready (rs:= [6]) my rX (AllReadyIn.cons rfl (fun K hK=> ?_) AllReadyIn.nil);go_simp;refine hK _ _ ?_;clear hK K;refine wpAnyIn_done my ?_ _;have S8:=S7.out.1;have ag:=eZ Z.out (fun y hy=>b6.block y (Aj Z.out y hy).2);have aa:Apt (.slice AH H0.length cH) (.slice A5 CK.length c5):=(JU Z.out (Ak _) (fun x hx=>(Aj HS.out.oH x hx).2)).symm;have Q:=(Hr ag aa M E).1;have ab:=Ag9 Q (gZ Q B7 ip) (.slice A7 (H0.length+NC.length) c7);have au:w.heap.size<=(w7.setCell ⟨w2,0,none⟩ (.slice A7 (H0.length+NC.length) c7)).heap.size:=AN af S7.out.2.2.2.size;have t2:=S8.kB.ia 0;have an:=Du ab;have J:=hid S8;clear M E G ag Q ab aa B7 q0 q1 p0 r0 r1 S6 ac
  gi_wp2_with (gi_at_builtin;refine LH rfl (.tmp 37) (.tmp 38) 28 rfl w 5 j0 _ 1 1 underlying28 am al ak aj rfl ip _ _ _ nm J.out.oB _ _ _ _ nm an (Ce _ _) sS nj au ?_;intro A9 c9 w9 U ae ai;have S9:=hid (J.out.body ae U ai);have B9:=J.out.kB.grown ae (Ba (gZ J.out.oB J.out.kB ip));have t0:=B9.ia 0;have t1:=B9.frozen 0)
  have K9:Hid (KeepsOthers W (w9.setCell ⟨w2.heap.size+1,0,none⟩ (.slice A9 (B0.length+CK.length) c9))/\KpC w (w2.heap.size+1+1) W (w9.setCell ⟨w2.heap.size+1,0,none⟩ (.slice A9 (B0.length+CK.length) c9))/\Below w w (w9.setCell ⟨w2.heap.size+1,0,none⟩ (.slice A9 (B0.length+CK.length) c9))):=
   ⟨(If L.out).trans ((If b6).trans (S7.out.2.1.trans S9.out.2.1)),FT (HS.out.keeps L.out) (FT (av.out.keeps b6) (FT S7.out.2.2.1 S9.out.2.2.1)),(((N.out.trans (L.out.mono N.out.size)).trans (b6.mono (AN N.out.size L.out.size))).trans S7.out.2.2.2).trans S9.out.2.2.2⟩
  exact⟨K9.out.1,K9.out.2.1,⟨_,_,qq⟩,K9.out.2.2⟩):p:=h
theorem oW(w:World)(size:Nat)(A:Option Addr)(n c:Nat)(ls:List Str)(hn:ls.length=n)(h1:1<=size)(h2:size<=64)(Aj0:n<=20000)(b5:n<=c)(hm:GR ls=true)(ha:Row w w A n 1 (Gc ls)):
 Calls prog 104 #[.int .i64 (size:Nat), .slice A n c] w fun e w'=>∃v,e= .returned (.tuple #[v,ij])/\w'.ownsRow w 5 1 v (Ec size ls).length (dZ .u8 (Ec size ls))/\Below w w w':=by
 have HN:=hid hn;have HA:=hid ha;have DM:=hid (jF w A n c ls hn nj ha);rw[hm]at DM;have DN:=hid (fun wx=>Gi wx n nj);have DC:=hid (fun wx=>W6 wx A n c size h1 nj);have y1:=ig ((size:Int)<1)
 have cd:=ig (size<1)
 have y2:=ig ((64:Int)<size)
 have cg:=ig (64<size)
 have u1:IntKind.u64.wrap (n:Int)=(n:Int):=pm
 obtain⟨b,Y,bn⟩:∃b Y,0<n->A=some ⟨b,Y,none⟩:=by
  by_cases h:0<n
  ·obtain⟨b,Y,hA,_,_⟩:=ha h;exact⟨b,Y,fun _=>hA⟩
  ·exact⟨0,0,fun h'=>absurd h' h⟩
 have bj:=hid bn;have HM:=hid hm;clear hn ha hm bn;refine(callsIn_wide (n:=3)).1 (callsIn_of_wp_marks func104 rfl trivial (wpIn_wide.2 ?_) rfl);simp only[ntmps104,List.size_toArray,List.length_cons,List.length_nil,Nat.reduceAdd,Nat.reduceSub,Array.replicate_succ,Array.replicate_zero,List.push_toArray,List.append_toArray,List.nil_append,List.cons_append];go_wp2_with fail;refine DM.out.mono ?_;rintro e w1 ⟨rfl,rfl⟩;obtain⟨w,rfl⟩:=ii w1;clear DM;go_wp2_with fail;refine(DN.out _).mono ?_;rintro e w2 ⟨v2,rfl,ba,bi⟩;obtain⟨A2,c2,rfl⟩:=bZ ba;have bh:=hid ba;have a8:=hid bi;clear ba bi DN;go_wp2_with fail;refine(DC.out _).mono ?_;rintro e w3 ⟨rfl,rfl⟩;clear DC;go_wp2_with fail;have bb:Blk ((((w2.alloc (.cells #[.slice A2 (fZ n).length c2] 28)).alloc (.cells #[()] 28)).alloc (.cells #[.slice A n c] 50)).alloc (.cells #[.int .i64 (size:Nat)] 3)) w2 28 #[.slice A2 (fZ n).length c2]:=(((Blk.made _ _ _).alloc _).alloc _).alloc _;have bd:Blk ((((w2.alloc (.cells #[.slice A2 (fZ n).length c2] 28)).alloc (.cells #[()] 28)).alloc (.cells #[.slice A n c] 50)).alloc (.cells #[.int .i64 (size:Nat)] 3)) (w2.heap.size+1) 28 #[()]:=((Blk.made_at _ _ _ rX).alloc _).alloc _;have a5:Blk ((((w2.alloc (.cells #[.slice A2 (fZ n).length c2] 28)).alloc (.cells #[()] 28)).alloc (.cells #[.slice A n c] 50)).alloc (.cells #[.int .i64 (size:Nat)] 3)) (w2.heap.size+1+1) 50 #[.slice A n c]:=(Blk.made_at _ _ _ rX).alloc _;have a1:Blk ((((w2.alloc (.cells #[.slice A2 (fZ n).length c2] 28)).alloc (.cells #[()] 28)).alloc (.cells #[.slice A n c] 50)).alloc (.cells #[.int .i64 (size:Nat)] 3)) (w2.heap.size+1+1+1) 3 #[.int .i64 (size:Nat)]:=Blk.made_at _ _ _ rX;have a3:Below w2 w2 ((((w2.alloc (.cells #[.slice A2 (fZ n).length c2] 28)).alloc (.cells #[()] 28)).alloc (.cells #[.slice A n c] 50)).alloc (.cells #[.int .i64 (size:Nat)] 3)):=aZ (aZ (aZ (aZ (Ae _ _))));have bx:((((w2.alloc (.cells #[.slice A2 (fZ n).length c2] 28)).alloc (.cells #[()] 28)).alloc (.cells #[.slice A n c] 50)).alloc (.cells #[.int .i64 (size:Nat)] 3)).heap.size=w2.heap.size+4:=rX
 generalize ((((w2.alloc (.cells #[.slice A2 (fZ n).length c2] 28)).alloc (.cells #[()] 28)).alloc (.cells #[.slice A n c] 50)).alloc (.cells #[.int .i64 (size:Nat)] 3))=W0 at *;have bg:W0.ownsRow w 5 1 (.slice A2 (fZ n).length c2) (fZ n).length (dZ .u8 (fZ n)):=eZ bh.out (fun y hy=>a3.block y (Aj bh.out y hy).2);have bm:Below w w W0:=xZ a3 a8.out.size a8.out;have bt:=a8.out.size;obtain⟨C,hC⟩:∃C:Nat->List Nat,C=fun k=>vZ (Ds size ls k):=⟨_,rfl⟩
 refine wpIn_wide.1 (wpIn_rangeFunc_ownF (F:=Fence.wide) (n:=3) rfl nj (gf:=231) (lb:=#[.pointer (some ⟨w2.heap.size+1+1,0,none⟩), .pointer (some ⟨w2.heap.size+1+1+1,0,none⟩)]) rfl trivial (enters_of func231 my rfl)
  (pU 2 w (w2.heap.size+1+1) n c size (nCh size n) A b Y bj.out h1 nj nj b5 (fun k=>Pw h1) W0 nj (a5.cell 0) (a1.cell 0)) FT (eL nj nj) (Ae _ _) (fun _=>rfl)
  (fun pre W=>DSt w w2 (.slice A n c) (.int .i64 (size:Nat)) (fZ n++pre.flatMap (fun x=>fZ (C x.val).length)) (pre.flatMap (fun x=>C x.val)) W/\Below w w W)
  (fun _ _ _=>False)
  (OwnFrom.and (Own.from (DSt.own _ _ _ _ _ _) _) (ownFrom_below (Ak _) nj))
  (fun _ _ _ _ _ hs _ _=>hs)
  ⟨⟨_,_,bb,bd,a5,a1,by simpa using bg,AI _ _ _ _,(fun _ _ h=>by cases h),bt⟩,bm⟩
  (fun x=>{tmps:=#[.int .i64 size, .slice A n c,undef,undef, .slice none 0 0, .int .i64 0, .pointer (some ⟨w2,0,none⟩), .pointer (some ⟨w2.heap.size+1,0,none⟩),chV b Y size n x.val,undef, .int .i64 size, .bool false, .bool false, .int .i64 size, .bool false, .bool false, .bool false, .slice A n c, .bool true, .bool false, .bool false, .slice A n c, .int .i64 n, .int .u64 n, .slice A2 (fZ n).length c2, .slice A n c, .int .i64 size, .func (.func 231) #[] #[.pointer (some ⟨w2.heap.size+1+1,0,none⟩), .pointer (some ⟨w2.heap.size+1+1+1,0,none⟩)],chV b Y size n x.val,undef,undef,undef,undef,undef,undef,undef,undef,undef,undef,undef,undef,undef,undef,undef],defers:= [] }) ?assign ?body ?done ?stop)
 case assign=>
  intro l x W K hK
  gi_wp2
  exact hK
 case body=>
  rintro l pre ⟨k,hk⟩ W ⟨⟨vH,vB,hS⟩,hB⟩ hlen;obtain⟨j0,am,al,ak,aj⟩:=info_parts Dh;have bq:=(Pw (n:=n) (k:=k) h1).1 hk;have ar:∀s∈ls,s.length<=25:=fun s hs=>(JV HM.out s hs).2;obtain⟨i,hi⟩:=ii (k*size);rw[<-hi]at bq;obtain⟨z,hz⟩:=ii (min size (n-i));have bk:(Ds size ls k).length=z:=by rw[OP,HN.out,<-hi,hz]
  have bp:chV b Y size n k= .slice (some ⟨b,Y+i,none⟩) z z:=by unfold chV;rw[<-hi,hz]
  have a6:Row W W (some ⟨b,Y+i,none⟩) z 1 (Gc (Ds size ls k)):=fun _=>by obtain⟨b',b9,a4,bN,hc⟩:=(HA.out.below hB) nj;rw[bj.out nj]at a4;injection a4 with a4;injection a4 with e1 e2;subst e1 e2;refine⟨b,Y+i,rfl,Ek bN hB.size,fun r j hr hj=> ?_⟩;have h:=hc (i+r) j nj hj;rw[show Y+i+(r*1+j)=Y+((i+r)*1+j) by omega,h];unfold Gc Ds;rw[<-hi];congr 3;rw[Aq,Aq,GD,Iy,Ab nj]
  have DB:=hid (kV W (some ⟨b,Y+i,none⟩) z z (Ds size ls k) bk nj nj (Ak _) (fun s hs=>ar s (OW hs)) a6);rw[show vZ (Ds size ls k)=C k by rw[hC]]at DB;unfold PF at DB;have ca:(C k).length<=1984:=by rw[hC];exact Mt ar h2 k
  have cf:(fZ n++pre.flatMap (fun x=>fZ (C x.val).length)).length<=10+10*pre.length:=by
   rw[Ag];have h0:=qZ (x:=n) nj
   have h9:∀q:List (Fin (nCh size n)),(q.flatMap (fun x=>fZ (C x.val).length)).length<=10*q.length:=fun q=>by
    induction q with
    |nil=>simp
    |cons x t ih=>have hx:(C x.val).length<=1984:=(by rw[hC];exact Mt ar h2 x.val);have:=qZ (x:=(C x.val).length) nj;rw[CD,Ag,AD];omega
   have:=h9 pre;omega
  have ce:(pre.flatMap (fun x=>C x.val)).length<=1984*pre.length:=by
   have h9:∀q:List (Fin (nCh size n)),(q.flatMap (fun x=>C x.val)).length<=1984*q.length:=fun q=>by
    induction q with
    |nil=>simp
    |cons x t ih=>have hx:(C x.val).length<=1984:=(by rw[hC];exact Mt ar h2 x.val);rw[CD,Ag,AD];omega
   exact h9 pre
  have ci:=Mq (n:=n) h1;have ax:Hid (fZ n++(pre++ [(⟨k,hk⟩:Fin (nCh size n))]).flatMap (fun x=>fZ (C x.val).length)=fZ n++pre.flatMap (fun x=>fZ (C x.val).length)++fZ (C k).length):=rR
  have ay:Hid ((pre++ [(⟨k,hk⟩:Fin (nCh size n))]).flatMap (fun x=>C x.val)=pre.flatMap (fun x=>C x.val)++C k):=rR
  have a7:chV b Y size n (⟨k,hk⟩:Fin (nCh size n)).val= .slice (some ⟨b,Y+i,none⟩) z z:=bp;rw[a7];generalize fZ n++pre.flatMap (fun x=>fZ (C x.val).length)=H0 at *;generalize pre.flatMap (fun x=>C x.val)=B0 at *;have a0:=hid (fun wx=>Gi wx (C k).length nj);have b8:=qZ (x:=(C k).length) nj;have u3:IntKind.u64.wrap ((C k).length:Int)=((C k).length:Int):=pm
  generalize C k=CK at *;generalize fZ CK.length=NC at *;obtain⟨AH,cH,rfl⟩:=bZ hS.oH;obtain⟨AB,cB,rfl⟩:=bZ hS.oB;have HS:=hid hS;have N:=hid hB;clear bp a7 a6 bk hC bb bd a5 a1 a3 bx bg bm ar hS hB hi hz
  gi_wp2_with fail
  refine⟨trivial,(CallsIn.inRound l (callsIn_wide.2 DB.out)).mono ?_⟩;rintro e w5 ⟨v5,rfl,bf,bc⟩;obtain⟨A5,c5,rfl⟩:=bZ bf;have Z:=hid bf;have L:=hid bc;have av:=hid (HS.out.step bc);have r0:=av.out.kH.ia 0;have r1:=av.out.kH.frozen 0;have az:Hid (∀wx,Below w5 w5 wx->DS w w2 (.slice A n c) (.int .i64 (size:Nat)) H0 B0 (.slice AH H0.length cH) (.slice AB B0.length cB) wx):=fun wx h=>av.out.step h;clear bf bc DB
  gi_wp2_with fail
  refine wpIn_region_any my ?_
  change wpAnyIn _ _ _ _ _ _ _ _ _ (World.drew _)
  refine wpAnyIn_ready (rs:= [0,1]) my rX (AllReadyIn.cons rfl (fun K hK=> ?_) (AllReadyIn.cons rfl (fun K hK=> ?_) AllReadyIn.nil))
  ·go_simp;refine hK _ _ ?_;clear hK K
   refine wpAnyIn_ready (rs:= [1]) my rX (AllReadyIn.cons rfl (fun K hK=> ?_) AllReadyIn.nil);go_simp;refine hK _ _ ?_;clear hK K;refine wpAnyIn_ready (rs:= [2]) my rX (AllReadyIn.cons rfl (fun K hK=> ?_) AllReadyIn.nil);go_simp;refine hK _ _ ?_;clear hK K;refine wpAnyIn_ready (rs:= [3]) my rX (AllReadyIn.cons rfl (fun K hK=> ?_) AllReadyIn.nil);go_simp;refine hK _ _ ?_;clear hK K;refine wpAnyIn_ready (rs:= [4]) my rX (AllReadyIn.cons rfl (fun K hK=> ?_) AllReadyIn.nil);go_simp;refine⟨trivial,(CallsIn.inRound l (callsIn_wide.2 (a0.out _))).mono ?_⟩;rintro e w6 ⟨v6,rfl,ah,aq⟩;obtain⟨A6,c6,rfl⟩:=bZ ah;have b6:Below w5 w5 w6:=xZ aq (Ak _) (Am (Ae _ _));have S6:=az.out w6 b6;have af:w.heap.size<=w6.heap.size:=AN (AN N.out.size L.out.size) b6.size;have p0:=S6.kH.ia 0;have ac:=Du ah;exact a0a
  ·go_simp;refine hK _ _ ?_;clear hK K
   refine wpAnyIn_ready (rs:= [0,2]) my rX (AllReadyIn.cons rfl (fun K hK=> ?_) (AllReadyIn.cons rfl (fun K hK=> ?_) AllReadyIn.nil))
   ·go_simp;refine hK _ _ ?_;clear hK K
    refine wpAnyIn_ready (rs:= [2]) my rX (AllReadyIn.cons rfl (fun K hK=> ?_) AllReadyIn.nil);go_simp;refine hK _ _ ?_;clear hK K;refine wpAnyIn_ready (rs:= [3]) my rX (AllReadyIn.cons rfl (fun K hK=> ?_) AllReadyIn.nil);go_simp;refine hK _ _ ?_;clear hK K;refine wpAnyIn_ready (rs:= [4]) my rX (AllReadyIn.cons rfl (fun K hK=> ?_) AllReadyIn.nil);go_simp;refine⟨trivial,(CallsIn.inRound l (callsIn_wide.2 (a0.out _))).mono ?_⟩;rintro e w6 ⟨v6,rfl,ah,aq⟩;obtain⟨A6,c6,rfl⟩:=bZ ah;have b6:Below w5 w5 w6:=xZ aq (Ak _) (Am (Ae _ _));have S6:=az.out w6 b6;have af:w.heap.size<=w6.heap.size:=AN (AN N.out.size L.out.size) b6.size;have p0:=S6.kH.ia 0;have ac:=Du ah;exact a0a
   ·go_simp;refine hK _ _ ?_;clear hK K
    refine wpAnyIn_ready (rs:= [0,3]) my rX (AllReadyIn.cons rfl (fun K hK=> ?_) (AllReadyIn.cons rfl (fun K hK=> ?_) AllReadyIn.nil))
    ·go_simp;refine hK _ _ ?_;clear hK K
     refine wpAnyIn_ready (rs:= [3]) my rX (AllReadyIn.cons rfl (fun K hK=> ?_) AllReadyIn.nil);go_simp;refine hK _ _ ?_;clear hK K;refine wpAnyIn_ready (rs:= [4]) my rX (AllReadyIn.cons rfl (fun K hK=> ?_) AllReadyIn.nil);go_simp;refine⟨trivial,(CallsIn.inRound l (callsIn_wide.2 (a0.out _))).mono ?_⟩;rintro e w6 ⟨v6,rfl,ah,aq⟩;obtain⟨A6,c6,rfl⟩:=bZ ah;have b6:Below w5 w5 w6:=xZ aq (Ak _) (Am (Ae _ _));have S6:=az.out w6 b6;have af:w.heap.size<=w6.heap.size:=AN (AN N.out.size L.out.size) b6.size;have p0:=S6.kH.ia 0;have ac:=Du ah;exact a0a
    ·go_simp;refine hK _ _ ?_;clear hK K
     refine wpAnyIn_ready (rs:= [0,4]) my rX (AllReadyIn.cons rfl (fun K hK=> ?_) (AllReadyIn.cons rfl (fun K hK=> ?_) AllReadyIn.nil))
     ·go_simp;refine hK _ _ ?_;clear hK K
      refine wpAnyIn_ready (rs:= [4]) my rX (AllReadyIn.cons rfl (fun K hK=> ?_) AllReadyIn.nil);go_simp;refine⟨trivial,(CallsIn.inRound l (callsIn_wide.2 (a0.out _))).mono ?_⟩;rintro e w6 ⟨v6,rfl,ah,aq⟩;obtain⟨A6,c6,rfl⟩:=bZ ah;have b6:Below w5 w5 w6:=xZ aq (Ak _) (Am (Ae _ _));have S6:=az.out w6 b6;have af:w.heap.size<=w6.heap.size:=AN (AN N.out.size L.out.size) b6.size;have p0:=S6.kH.ia 0;have ac:=Du ah;exact a0a
     ·go_simp;refine⟨trivial,(CallsIn.inRound l (callsIn_wide.2 (a0.out _))).mono ?_⟩;rintro e w6 ⟨v6,rfl,ah,aq⟩;obtain⟨A6,c6,rfl⟩:=bZ ah;have b6:Below w5 w5 w6:=xZ aq (Ak _) (Am (Ae _ _));have S6:=az.out w6 b6;have af:w.heap.size<=w6.heap.size:=AN (AN N.out.size L.out.size) b6.size;have p0:=S6.kH.ia 0;have ac:=Du ah;go_simp;refine hK _ _ ?_;clear hK K
      refine wpAnyIn_ready (rs:= [0]) my rX (AllReadyIn.cons rfl (fun K hK=> ?_) AllReadyIn.nil);exact a0a
 case done=>
  rintro D ys W hD a9 ⟨⟨vH,vB,hS⟩,hB⟩ hK;have ar:∀s∈ls,s.length<=25:=fun s hs=>(JV HM.out s hs).2;have eH:fZ n++ys.flatMap (fun x=>fZ (C x.val).length)=hdB size ls (nCh size n):=by unfold hdB;rw[HN.out,hC,<-a9,List.flatMap_map]
  have eB:ys.flatMap (fun x=>C x.val)=bdB size ls (nCh size n):=by unfold bdB;rw[hC,<-a9,List.flatMap_map]
  rw[eH,eB]at hS;have bC:Hid (Ec size ls=hdB size ls (nCh size n)++bdB size ls (nCh size n)):=by show _=_;rw[Px h1,HN.out];unfold hdB bdB;rw[HN.out]
  have l1:=N6 ar h2 pz (nCh size n);have l2:=Mg ar h1 (nCh size n);rw[HN.out]at l2;have l3:=Mq (n:=n) h1;generalize hdB size ls (nCh size n)=HH at *;generalize bdB size ls (nCh size n)=BB at *;have l4:BB.length<=31*n:=nj
  obtain⟨AH,cH,rfl⟩:=bZ hS.oH;obtain⟨AB,cB,rfl⟩:=bZ hS.oB;have P1:Part.Ok (⟨AH,cH,HH⟩:Part) W:=lZ hS.oH rfl;have P2:Part.Ok (⟨AB,cB,BB⟩:Part) W:=lZ hS.oB rfl;have bO:BN [(⟨AH,cH,HH⟩:Part),⟨AB,cB,BB⟩]<=1000000:=sl
  have d0:=hS.kH.ia 0;have d1:=hS.kB.ia 0;have b7:=hid P1;have b4:=hid P2;have HB:=hid hB;have HK:=hid hK;have bS:=(Array.getElem?_eq_some_iff.1 hK).1;clear eH eB hS P1 P2 hB hK a9 l2 ar hC bb bd a5 a1 bg a3;go_wp2_with fail;refine(FK _ _ 2 [(⟨AH,cH,HH⟩:Part),⟨AB,cB,BB⟩] rfl nj bO (fun p hp=>by rcases AO.1 hp with rfl|hp;exact b7.out.step (aZ (Ae _ _));rcases AO.1 hp with rfl|hp;exact b4.out.step (aZ (Ae _ _));cases hp) (Blk.made _ _ _)).mono ?_;rintro e w9 ⟨v9,rfl,b0,bl⟩;go_wp2_with fail;have be:w9.heap[D]? =some (.deferred (some [])):=(bl.block D sj).trans ((EA _ _ D bS).trans HK.out);have b3:w.heap.size<=D:=nj
  have aw:=kZ b0 (show w.heap.size<=_ by have:=HB.out.size;simp;omega);simp only[List.flatMap_cons,List.flatMap_nil,List.append_nil]at aw;rw[<-bC.out]at aw;have b1:Below w w w9:=xZ bl (by have:=HB.out.size;simp;omega) (pZ HB.out.size HB.out);have bu:v9.ownBlock≠some D:=fun e=>by have h:=Ac6 aw e be;cases h
  refine⟨rX, .inl ⟨_,_,rfl,run_takeDeferred be,?_⟩⟩;refine⟨_,results_tmp2 rfl _ _ _,v9,rfl,?_,b1.trans (belowK_b (w:=w) (Ak _) w9 D _ _ b3 be rfl rfl)⟩;exact eZ aw fun y hy=>World.putObj_heap_other (fun e=>bu rh)
 case stop=>rintro D cc pre W _ _ h _;exact h.elim
end Go.Proofs.YtfgdoknipbpfhaaGreatDoor
