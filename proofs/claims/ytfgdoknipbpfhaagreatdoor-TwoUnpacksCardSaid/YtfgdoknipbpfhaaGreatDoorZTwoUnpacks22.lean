/- A bucket of texts: t -/
import Derived.Test.YtfgdoknipbpfhaaGreatDoorZTwoUnpacks16
import Derived.Test.YtfgdoknipbpfhaaGreatDoorZTwoUnpacks21
namespace Go.Proofs.YtfgdoknipbpfhaaGreatDoor
open Go.Proofs.Tryz
open Go.Lib (hid)
set_option maxHeartbeats 4000000
set_option maxRecDepth 100000
variable{W at_ b2 base c g gd i k m n s x y:Nat}{u uH uT v' v3 vH vL x2:Value}{w w' w1 w3:World}{e t:TypeId}{xs:List Value}{hs j ls:List Nat}{A:Option Addr}{er:Int}
namespace Idx
open Go.RowKit Mem Own Canon Sift
open NumPut Recs Crc Block
theorem TI(s:Str):IN (bs s)=I1 s:=by unfold IN I1;rw[CO];rfl
theorem SR{s:Str}(h:s.length<=25):(I1 s).length<=28:=by have h1:=Yd (s:=bs s) (by rw[CO];omega);rw[TI,CO]at h1;omega
theorem XY(h:x<=127):(tZ x).length=1:=by rw[Gp kR];rfl
end Idx
namespace Idx
open Go.RowKit Mem Own Canon
open NumPut (tZ Cf)
def Dq(size:Nat)(l:List Str)(k:Nat):List Str:=(l.drop (k*size)).take size
def nCh(size n:Nat):Nat:=(n+size-1) / size
theorem LR{size:Nat}(h:1<=size):k<nCh size n↔k*size<n:=by unfold nCh;rw[Nat.lt_iff_add_one_le,Nat.le_div_iff_mul_le kR,Fc];omega
theorem QR{size:Nat}(h:1<=size):nCh size 0=0:=by unfold nCh;exact Nat.div_eq_of_lt kR
theorem aC{size:Nat}(h:1<=size)(hn:1<=n):nCh size n=nCh size (n-size)+1:=by
 unfold nCh;by_cases hs:size<=n
 ·have e:n+size-1=(n-size+size-1)+size:=by omega
  rw[e,Nat.add_div_right _ kR]
 ·have e:n-size=0:=by omega
  rw[e,BF,Nat.div_eq_of_lt (by omega:size-1<size)];have e2:n+size-1=(n-1)+size:=kR
  rw[e2,Nat.add_div_right _ kR,Nat.div_eq_of_lt kR]
theorem Nc{size:Nat}(h:1<=size):nCh size n<=n:=by refine JW fun hn=> ?_;have h1:=(LR (n:=n) (k:=n) h).1 kR;have h2:n*1<=n*size:=Nat.mul_le_mul_left n h;omega
theorem VB(size:Nat)(l:List Str):Dq size l 0=l.take size:=by simp[Dq]
theorem Vn(size:Nat)(l:List Str)(k:Nat):Dq size l (k+1)=Dq size (l.drop size) k:=by unfold Dq;rw[List.drop_drop,Fc,Nat.one_mul,Nat.add_comm]
theorem SX{size:Nat}(h:1<=size):∀ (f:Nat) (l:List Str),l.length<=f->Ki size f l=(List.range (nCh size l.length)).map (Dq size l)
 |0,l,hl=>by
  have e:l.length=0:=kR
  rw[e,QR h];rfl
 |f+1,l,hl=>by
  rw[Ki];by_cases e:l= []
  ·rw[Ab e,e];show []=(List.range (nCh size 0)).map _;rw[QR h];rfl
  ·have hp:1<=l.length:=Iu.2 e;rw[Aa e,aC h hp,List.range_succ_eq_map,DV,List.map_map,VB,SX h f (l.drop size) lk,AK];congr 1;exact JT fun k _=>(Vn size l k).symm
theorem XH{size:Nat}(h:1<=size)(l:List Str):L8 size l=(List.range (nCh size l.length)).map (Dq size l):=SX h _ l (Ai _)
theorem NF{size:Nat}(h:1<=size)(l:List Str):Fs size l=(tZ l.length++(List.range (nCh size l.length)).flatMap (fun k=>tZ (EO (Dq size l k)).length))++(List.range (nCh size l.length)).flatMap (fun k=>EO (Dq size l k)):=by unfold Fs;rw[XH h,List.flatMap_map,List.flatMap_map]
theorem SF:∀ (t:List Str) (i:Str),(∀s∈t,s.length<=25)->i.length<=25->(Hw i t).length<=31*t.length
 | [],_,_,_=>by simp[Hw]
 |x :: t,i,h,hw=>by have hx:=h x Fu;have ih:=SF t x (fun s hs=>h s (Fv _ hs)) hx;have ha:=(O1 i x).2;rw[Hw,Aj,Aj,Bu,XY kR];have:=SR (s:=x.drop (Bz i x)) lk;omega
theorem SK{l:List Str}(h:∀s∈l,s.length<=25):(EO l).length<=31*l.length:=by
 cases l with
 |nil=>simp[EO]
 |cons x t=>rw[EO,Aj,Bu];have:=SR (h x Fu);have:=SF t x (fun s hs=>h s (Fv _ hs)) (h x Fu);omega
theorem Pv{size:Nat}{l:List Str}{s:Str}(h:s∈Dq size l k):s∈l:=Be (BZ h)
theorem Pg(size k:Nat)(l:List Str):(Dq size l k).length=min size (l.length-k*size):=by unfold Dq;rw[AN,AK]
def Apt(v u:Value):Prop:=∀x,v.ownBlock=some x->u.ownBlock=some x->False
theorem Apt.symm{v:Value}(h:Apt v u):Apt u v:=fun x a b=>h x b a
theorem Lg{v:Value}{ys:List Value}(hu:w.ownsRow base e s u m ys)(ha:Apt v u)(hg:w.grownBy w' v.ownBlock)(i:v'.ownBlock=v.ownBlock∨v'.ownBlock=some w.heap.size):
 w'.ownsRow base e s u m ys/\Apt v' u:=by
 refine⟨dZ hu fun y hy=>hg.block y (Ae hu y hy).2 fun e=>ha y e.symm hy,fun x hx hy=> ?_⟩;rcases i with h|h
 ·exact ha x (h ▸ hx) hy
 ·rw[h]at hx;have:=(Ae hu x hy).2;injection hx;omega
theorem RR{v:Value}{B:Nat}(hv:w.ownsRow base e s v m xs)(hB:B<=base)(hu:∀x,u.ownBlock=some x->x<B):Apt v u:=
 fun x a b=>by have:=(Ae hv x a).1;have:=hu x b;omega
theorem RO:∀ (l:List Str) (i:Str),Ff i l=true->∀s∈l,1<=s.length/\s.length<=25
 | [],_,_,s,hs=>by cases hs
 |x :: t,i,h,s,hs=>by
  rw[Ff,CV]at h;rcases BK.1 hs with rfl|hs
  ·have h1:=h.1;unfold BH at h1;rw[CV,CV,decide_eq_true_iff,decide_eq_true_iff]at h1;exact⟨h1.1,h1.2.1⟩
  ·exact RO t x h.2 s hs
theorem MJ{l:List Str}(h:Hc l=true):∀s∈l,1<=s.length/\s.length<=25:=by unfold Hc at h;rw[CV]at h;exact RO l [] h.1
def hdB(size:Nat)(l:List Str)(q:Nat):List Nat:=tZ l.length++(List.range q).flatMap (fun k=>tZ (EO (Dq size l k)).length)
def bdB(size:Nat)(l:List Str)(q:Nat):List Nat:=(List.range q).flatMap (fun k=>EO (Dq size l k))
theorem ZV(size:Nat)(l:List Str)(q:Nat):hdB size l (q+1)=hdB size l q++tZ (EO (Dq size l q)).length:=by simp[hdB,List.range_succ]
theorem ZF(size:Nat)(l:List Str)(q:Nat):bdB size l (q+1)=bdB size l q++EO (Dq size l q):=by simp[bdB,List.range_succ]
theorem W9{size:Nat}{l:List Str}(hs:∀s∈l,s.length<=25)(h2:size<=64)(q:Nat):(EO (Dq size l q)).length<=1984:=by have h:=SK (l:=Dq size l q) (fun s hs'=>hs s (Pv hs'));rw[Pg]at h;omega
theorem LN{size:Nat}{l:List Str}(hs:∀s∈l,s.length<=25)(h2:size<=64)(hl:l.length<=1000000):∀q,(hdB size l q).length<=10+10*q
 |0=>by have:=Cf (x:=l.length) kR;simp[hdB];omega
 |q+1=>by have ih:=LN hs h2 hl q;have hc:=W9 hs h2 q;have:=Cf (x:=(EO (Dq size l q)).length) kR;rw[ZV,Aj];omega
theorem KW{size:Nat}{l:List Str}(hs:∀s∈l,s.length<=25)(h1:1<=size):∀q,(bdB size l q).length<=31*min (q*size) l.length
 |0=>by simp[bdB]
 |q+1=>by have ih:=KW hs h1 q;have hc:=SK (l:=Dq size l q) (fun s hs'=>hs s (Pv hs'));rw[Pg]at hc;rw[ZF,Aj,Fc,Nat.one_mul];omega
end Idx
namespace Idx
open Go.RowKit Mem Own Canon
open NumPut Recs Crc Block
def Ds(x:Nat):List Nat:= [x % 256,x / 256 % 256,x / 65536 % 256,x / 16777216 % 256]
def Gb(x:Nat):Nat->Array Value
 |0=>#[.int .u8 0, .int .u8 0, .int .u8 0, .int .u8 0]
 |1=>#[.int .u8 ((x:Int) % 256), .int .u8 0, .int .u8 0, .int .u8 0]
 |2=>#[.int .u8 ((x:Int) % 256), .int .u8 ((x:Int) / 256 % 256), .int .u8 0, .int .u8 0]
 |3=>#[.int .u8 ((x:Int) % 256), .int .u8 ((x:Int) / 256 % 256), .int .u8 ((x:Int) / 65536 % 256), .int .u8 0]
 |_=>#[.int .u8 ((x:Int) % 256), .int .u8 ((x:Int) / 256 % 256), .int .u8 ((x:Int) / 65536 % 256), .int .u8 ((x:Int) / 16777216 % 256)]
theorem Zn(x:Nat):(Gb x 4).toList=cZ .u8 (Ds x):=by simp[Gb,Ds,cZ]
theorem QA:(prog.info? 5).map (fun i=>(i.zero,i.size,i.bytes))=some (some (.int .u8 0),1,1):=kG
theorem WO(w:World):(Instr.makeSlice 28 (.int .i64 4) (.int .i64 4)).run prog w= .ok (.slice (some ⟨w,0,none⟩) 4 4) (w.alloc (.cells #[.int .u8 0, .int .u8 0, .int .u8 0, .int .u8 0] 5)):=by
 obtain⟨i0,hi,y,i,j⟩:=info_parts QA;have h:=run_make (P:=prog) w 28 5 i0 (.int .u8 0) underlying28 hi y .i64 .i64 (4:Int) (4:Int) kR (Int.le_refl _) mr kR;rw[h,i];have e:madeCells (Value.int IntKind.u8 0).cells (Int.toNat 4*1)=#[.int .u8 0, .int .u8 0, .int .u8 0, .int .u8 0]:=kG
 rw[e];rfl
theorem Kg(x:Int):IntKind.u8.wrap x=x % 256:=IntKind.wrap_u8 x
theorem Xt(w:World)(x:Nat)(hx:x<4294967296):
 Calls prog 54 #[.int .u64 x, .int .i64 4] w fun e w'=>∃v,e= .returned (.tuple #[v,iT])/\w'.ownsRow w 5 1 v 4 (cZ .u8 (Ds x))/\aO w w':=by
 have hd:(((x:Int) / 4294967296) != 0)=false:=ni
 have hm:=WO;have w0:=Kg (x:Int);have w1:=Kg ((x:Int) / 256);have w2:=Kg ((x:Int) / 65536);have w3:=Kg ((x:Int) / 16777216);go_enter func54,ntmps54;go_wp2_with fail;have j:Hid (Blk (w.alloc (.cells #[.int .u8 0, .int .u8 0, .int .u8 0, .int .u8 0] 5)) w 5 (Gb x 0)):=Blk.made _ _ _;have y:Hid (aO w (w.alloc (.cells #[.int .u8 0, .int .u8 0, .int .u8 0, .int .u8 0] 5))):=bZ (Ag _ _);generalize w.alloc (.cells #[.int .u8 0, .int .u8 0, .int .u8 0, .int .u8 0] 5)=wa at *;go_loopw [29] (fun iv wr=>∃k:Nat,k<=4/\iv= .int .i64 k/\Hid (Blk wr w 5 (Gb x k))/\Hid (aO w wr)) (fun iv _=>4-(intOf iv).toNat)
 case atStart=>exact⟨0,kR,rfl,j.out,y.out⟩
 case round=>
  obtain⟨k,hk,rfl,HX,HB⟩:=hrel;clear j y hm;have z:k=0∨k=1∨k=2∨k=3∨k=4:=kR
  rcases z with rfl|rfl|rfl|rfl|rfl
  ·have c:=HX.out.cell 0;have f:=HX.out.frozen 0;have h:Hid (Blk (wr.setCell ⟨w,0,none⟩ (.int .u8 ((x:Int) % 256))) w 5 (Gb x 1)):=HX.out.set 0 _;have i:Hid (aO w (wr.setCell ⟨w,0,none⟩ (.int .u8 ((x:Int) % 256)))):=kZ (Ai _) HB.out;simp[Gb]at c;clear HX HB;go_wp2_with fail;exact⟨⟨1,kR,rfl,h,i⟩,nu⟩
  ·have c:=HX.out.cell 1;have f:=HX.out.frozen 1;have h:Hid (Blk (wr.setCell ⟨w,1,none⟩ (.int .u8 ((x:Int) / 256 % 256))) w 5 (Gb x 2)):=HX.out.set 1 _;have i:Hid (aO w (wr.setCell ⟨w,1,none⟩ (.int .u8 ((x:Int) / 256 % 256)))):=kZ (Ai _) HB.out;simp[Gb]at c;clear HX HB;go_wp2_with fail;exact⟨⟨2,kR,rfl,h,i⟩,nu⟩
  ·have c:=HX.out.cell 2;have f:=HX.out.frozen 2;have h:Hid (Blk (wr.setCell ⟨w,2,none⟩ (.int .u8 ((x:Int) / 65536 % 256))) w 5 (Gb x 3)):=HX.out.set 2 _;have i:Hid (aO w (wr.setCell ⟨w,2,none⟩ (.int .u8 ((x:Int) / 65536 % 256)))):=kZ (Ai _) HB.out;simp[Gb]at c;clear HX HB;go_wp2_with fail;exact⟨⟨3,kR,rfl,h,i⟩,nu⟩
  ·have c:=HX.out.cell 3;have f:=HX.out.frozen 3;have h:Hid (Blk (wr.setCell ⟨w,3,none⟩ (.int .u8 ((x:Int) / 16777216 % 256))) w 5 (Gb x 4)):=HX.out.set 3 _;have i:Hid (aO w (wr.setCell ⟨w,3,none⟩ (.int .u8 ((x:Int) / 16777216 % 256)))):=kZ (Ai _) HB.out;simp[Gb]at c;clear HX HB;go_wp2_with fail;exact⟨⟨4,kR,rfl,h,i⟩,nu⟩
  ·go_wp2_with fail;go_ret2;refine⟨_,rfl,⟨rfl, .inr ⟨w.heap.size,4,_,rfl,Ai _,HX.out,kR,nI,rfl,?_⟩⟩,HB.out⟩;rw[<-Zn];rfl
def Gk(x k:Nat):List Nat:=(List.range k).map fun i=>x / 256 ^ i % 256
theorem Wy(x:Nat):Gk x 4=Ds x:=by simp[Gk,Ds,List.range_succ]
theorem Wi(x k:Nat):Gk x (k+1)=Gk x k++ [x / 256 ^ k % 256]:=by simp[Gk,List.range_succ]
theorem U8(w:World)(x:Nat)(hx:x<4294967296):
 Calls prog 79 #[.int .u64 x, .int .i64 4] w fun e w'=>∃v,e= .returned (.tuple #[v,iT])/\w'.ownsRow w 5 1 v 4 (cZ .u8 (Ds x))/\aO w w':=by
 obtain⟨j0,M,U,Y,N⟩:=info_parts QA;go_enter func79,ntmps79;go_wp2_with fail;go_loopw [0,6,7] (fun xv uv iv wr=>∃k y:Nat,k<=4/\y<4294967296/\iv= .int .i64 k/\xv= .int .u64 y/\Hid (y=x / 256 ^ k)/\Hid (wr.ownsRow w 5 1 uv k (cZ .u8 (Gk x k)))/\Hid (aO w wr)) (fun _ _ iv _=>4-(intOf iv).toNat)
 case atStart=>exact⟨0,x,kR,hx,rfl,rfl,(by show x=x / 256 ^ 0;simp),Aq _ _ _ _,Ag _ _⟩
 case round=>
  obtain⟨k,y,hk,hy,rfl,rfl,HY,HO,HB⟩:=hrel;obtain⟨wi,rfl⟩:=iS wr;obtain⟨A1,c1,rfl⟩:=aZ HO.out;by_cases aa:k<4
  ·have gk:=iQ ((k:Int)<4);have Z:=iQ (k<4);have u1:IntKind.u8.wrap ((y:Int) % 256)=((y % 256:Nat):Int):=(by rw[Kg];omega);have J:=HB.out.size;have G:Hid (y / 256=x / 256 ^ (k+1)):=(by show _=_;rw[HY.out,JR,ER]);have HL:Hid (Gk x (k+1)=Gk x k++ [y % 256]):=(by show _=_;rw[Wi,HY.out]);clear HY;go_wp2_with(at_builtin;refine gZ rfl (.tmp 19) (.tmp 23) 28 rfl w 5 j0 _ 1 1 underlying28 M U Y N rfl iX _ _ _ kU (HO.out.alloc _) _ 1 1 [.int .u8 (y % 256:Nat)] kU (Src.of_blk (Blk.made_at _ _ _ mY) 1 1 1 rfl) kw nI kR ni ?_;intro v6 w6 h E j;obtain⟨A6,c6,rfl⟩:=aZ h);have Q:Hid (w6.ownsRow w 5 1 (.slice A6 (k+1) c6) (k+1) (cZ .u8 (Gk x (k+1)))):=(by show World.ownsRow _ _ _ _ _ _ _;rw[HL.out,show cZ .u8 (Gk x k++ [y % 256])=cZ .u8 (Gk x k)++ [.int .u8 (y % 256:Nat)] by simp[cZ]];exact h);have L:Hid (aO w w6):=(lZ J HB.out).grown E ni (fun z hz=>(Ae HO.out z hz).1);clear h E j HO HB HL;go_roundw
   case measure=>exact jw
   case rel=>go_light;exact⟨k+1,y / 256,kR,kR,i5,i5,G.out,Q.out,L.out⟩
  ·obtain rfl:k=4:=by omega
   have i:y=0:=(by rw[HY.out];exact Nat.div_eq_of_lt kR);subst i;clear HY;go_wp2_with fail;go_ret2;exact⟨_,rfl,by rw[<-Wy];exact HO.out,HB.out⟩
end Idx
namespace Ef
open Go.RowKit Mem Own Canon Huff NumPut
structure Prt (t:TypeId) (w:World) (base g W:Nat) (hs ls:List Nat) (vH vL:Value):Prop where
 blk:Blk w g t #[.int .i64 (W:Nat),vH,vL]
 oh:w.ownsRow base 3 1 vH hs.length (cZ .i64 hs)
 ol:w.ownsRow base 25 1 vL ls.length (cZ .u16 ls)
 gb:base<=g
theorem V0:(prog.info? 25).map (fun i=>(i.zero,i.size,i.bytes))=some (some (.int .u16 0),1,2):=kG
theorem Sp:(prog.info? 3).map (fun i=>(i.zero,i.size,i.bytes))=some (some (.int .i64 0),1,8):=kG
theorem Prt.highs(j:3≠t)(E:25≠t)(h:Prt t w base g W hs ls vH vL)(hb:aO w w1)(hg:w1.grownBy w3 vH.ownBlock)
 (i:w3.ownsRow base 3 1 v3 (hs.length+1) (cZ .i64 hs++ [.int .i64 (x:Nat)])):Prt t (w3.setCell ⟨g,1,none⟩ v3) base g W (hs++ [x]) ls v3 vL:=by
 have J:vH.ownBlock≠some g:=fZ h.oh h.blk j;have b1:=h.blk.step hb;have b3:Blk w3 g t #[.int .i64 (W:Nat),vH,vL]:=b1.grown hg (Br J);have o1:w1.ownsRow base 25 1 vL ls.length (cZ .u16 ls):=dZ h.ol (fun y hy=>hb.block y (Ae h.ol y hy).2)
 have o3:w3.ownsRow base 25 1 vL ls.length (cZ .u16 ls):=dZ o1 (fun y hy=>hg.block y (Ae o1 y hy).2 (fun e=>by
  rcases Fh h.oh h.ol iX with e2|e2
  ·rw[e2]at e;cases e
  ·exact e2 (by rw[<-e,hy])))
 have z:v3.ownBlock≠some g:=fZ i b3 j;have G:vL.ownBlock≠some g:=fZ o3 b3 E;refine⟨by simpa using b3.set 1 v3,?_,dZ o3 (fun y hy=>AJ _ _ _ y (fun e=>G mp)),h.gb⟩;have e1:cZ .i64 (hs++ [x])=cZ .i64 hs++ [.int .i64 (x:Nat)]:=nk
 rw[Aj,e1];exact dZ i (fun y hy=>AJ _ _ _ y (fun e=>z mp))
theorem Prt.lows(z:3≠t)(j:25≠t)(h:Prt t w base g W hs ls vH vL)(hb:aO w w1)(hg:w1.grownBy w3 vL.ownBlock)
 (i:w3.ownsRow base 25 1 v3 (ls.length+1) (cZ .u16 ls++ [.int .u16 (x:Nat)])):Prt t (w3.setCell ⟨g,2,none⟩ v3) base g W hs (ls++ [x]) vH v3:=by
 have J:vL.ownBlock≠some g:=fZ h.ol h.blk j;have b1:=h.blk.step hb;have b3:Blk w3 g t #[.int .i64 (W:Nat),vH,vL]:=b1.grown hg (Br J);have o1:w1.ownsRow base 3 1 vH hs.length (cZ .i64 hs):=dZ h.oh (fun y hy=>hb.block y (Ae h.oh y hy).2)
 have o3:w3.ownsRow base 3 1 vH hs.length (cZ .i64 hs):=dZ o1 (fun y hy=>hg.block y (Ae o1 y hy).2 (fun e=>by
  rcases Fh h.ol h.oh iX with e2|e2
  ·rw[e2]at e;cases e
  ·exact e2 (by rw[<-e,hy])))
 have E:v3.ownBlock≠some g:=fZ i b3 j;have G:vH.ownBlock≠some g:=fZ o3 b3 z;refine⟨by simpa using b3.set 2 v3,dZ o3 (fun y hy=>AJ _ _ _ y (fun e=>G mp)),?_,h.gb⟩;have e1:cZ .u16 (ls++ [x])=cZ .u16 ls++ [.int .u16 (x:Nat)]:=nk
 rw[Aj,e1];exact dZ i (fun y hy=>AJ _ _ _ y (fun e=>E mp))
theorem VM:∀n:Int,0<=n->n<2 ^ 20->IntKind.i64.wrap n=n:=fun n h0 h1=>Am _ kR
theorem Y8(x W:Nat)(hx:x<=100000)(hW:W<=14):IntKind.u16.wrap (bits .and .i64 (x:Int) (IntKind.i64.wrap (IntKind.i64.wrap (2 ^ W)-1)))=((x % 2 ^ W:Nat):Int):=by
 have h1:2 ^ W<=2 ^ 14:=BQ kR hW;have h0:1<=2 ^ W:=Nat.one_le_two_pow;have e0:((2:Int) ^ W)=((2 ^ W:Nat):Int):=mY
 have h:x % 2 ^ W<2 ^ W:=Nat.mod_lt _ kR;rw[e0,Am ((2 ^ W:Nat):Int) kR];have e1:(((2 ^ W:Nat):Int)-1)=((2 ^ W-1:Nat):Int):=kR
 rw[e1,Am ((2 ^ W-1:Nat):Int) kR,(bits_nat .i64 20 iX VM x (2 ^ W-1) kR kR).1,Mh,IntKind.wrap_u16];omega
theorem Vx(t:TypeId)(aa:3≠t)(ab:25≠t)(w:World)(base g W:Nat)(hs ls:List Nat)(vH vL:Value)(x:Nat)(hx:x<=100000)(hW:W<=14)(hh:hs.length<=100000)(hl:ls.length<=100000)(hP:Prt t w base g W hs ls vH vL):
 Calls prog 174 #[.pointer (some ⟨g,0,none⟩), .int .i64 (x:Nat)] w fun e w'=>e= .returned (.tuple #[])/\∃vH' vL',Prt t w' base g W (hs++ [x / 2 ^ W]) (ls++ [x % 2 ^ W]) vH' vL'/\Below base w w'/\Kept (fun y=>y<w.heap.size/\y≠g/\vH.ownBlock≠some y/\vL.ownBlock≠some y) w w'/\(∀y,y<w.heap.size->vL'.ownBlock=some y->vL.ownBlock=some y):=by
 obtain⟨j0,aw,aS,ar,az⟩:=info_parts Sp;obtain⟨k0,aR,aP,am,ak⟩:=info_parts V0;have c0:=hP.blk.iO 0;have c1:=hP.blk.iO 1;have c2:=hP.blk.iO 2;have f1:=hP.blk.frozen 1;have f2:=hP.blk.frozen 2;have an:=hP.blk.lt;have af:=hP.gb;have L:=hP.oh;have ae:some g≠vH.ownBlock:=Br (fZ hP.oh hP.blk aa);obtain⟨p,hp⟩:=iS hs.length;obtain⟨q,hq⟩:=iS ls.length;rw[<-hp]at L hh;obtain⟨AH,cH,rfl⟩:=aZ L;have HP:=hid hP;have aQ:=hid hp;have Z:=hid hq;have aT:=hid hl;obtain⟨hi,N⟩:=iS (x / 2 ^ W);obtain⟨lo,Q⟩:=iS (x % 2 ^ W);rw[<-N,<-Q];have eh:(x:Int) / 2 ^ W=(hi:Int):=by rw[N];simp
 have el:IntKind.u16.wrap (bits .and .i64 (x:Int) (IntKind.i64.wrap (IntKind.i64.wrap (2 ^ W)-1)))=(lo:Int):=by rw[Q];exact Y8 x W hx hW
 have aY:=hid N;have aW:=hid Q;clear hP hp hq N Q hl;go_enter func174,ntmps174;go_upto_region 0 with fail;go_region_law((refine step_append_lies _ kU _ _ _ kU base 3 j0 _ 1 8 underlying37 aw aS ar az rfl kR (.slice AH p cH) p (cZ .i64 hs) kU ((L.alloc _).drew) ⟨w,0,none⟩ 1 1 [.int .i64 (hi:Nat)] kU kU (World.news_of_block (cs:=#[.int .i64 (hi:Nat)]) (t:=3) (fr:=(0,0)) (heap_alloc_new w _)) kA kR nI kR ni (w.heap.size+1) mY ?_;intro g3 z w3 M j aU ah;have gb:w3.heap[g]? =w.heap[g]? :=(j.block g ni ae).trans (Ca w _ g an);have p0:=(World.cell?_of_block (a:=⟨g,0,none⟩) gb).trans c0;have p1:=(World.cell?_of_block (a:=⟨g,1,none⟩) gb).trans c1;have p2:=(World.cell?_of_block (a:=⟨g,2,none⟩) gb).trans c2;have q1:=(World.frozen?_of_block (a:=⟨g,1,none⟩) gb).trans f1))
 all_goals
  have E:Prt t (w3.setCell ⟨g,1,none⟩ (.slice (some ⟨g3,0,none⟩) (p+1) z)) base g W (hs++ [hi]) ls (.slice (some ⟨g3,0,none⟩) (p+1) z) vL:=HP.out.highs aa ab (bZ (Ag _ w)).drew j (by rw[<-aQ.out];exact M);have ac:Below base w (w3.setCell ⟨g,1,none⟩ (.slice (some ⟨g3,0,none⟩) (p+1) z)):=(((Ag base w).alloc kR _).drew.grown j ni (fun y hy=>(Ae L y hy).1)).setCell (p:=⟨g,1,none⟩) af _;have ai:Hid (Kept (fun y=>y<w.heap.size/\y≠g/\(Value.slice AH p cH).ownBlock≠some y/\vL.ownBlock≠some y) w (w3.setCell ⟨g,1,none⟩ (.slice (some ⟨g3,0,none⟩) (p+1) z))):=((((Kept.refl _ w).alloc (fun y hy=>hy.1) _).drew.grown j (fun y hy=>by have:=hy.1;simp;omega) (fun y hy hk=>hk.2.2.1 hy))).set (fun h=>h.2.1 rfl) _;generalize w3.setCell ⟨g,1,none⟩ (.slice (some ⟨g3,0,none⟩) (p+1) z)=wb at *;clear M j aU ah gb p0 p1 p2 q1;have au:=hid ac;have d0:=E.blk.iO 0;have d2:=E.blk.iO 2;have e2:=E.blk.frozen 2;have aj:=E.blk.lt;have G:=E.ol;have ag:some g≠vL.ownBlock:=Br (fZ E.ol E.blk ab);rw[<-Z.out]at G;obtain⟨AL,cL,rfl⟩:=aZ G;have aq:=hid E;have aX:q<=100000:=by rw[Z.out];exact aT.out
  clear E ac c0 c1 c2 f1 f2 ae L;go_upto_region 1 with fail;go_region_law((refine step_append_lies _ kU _ _ _ kU base 25 k0 _ 1 2 underlying227 aR aP am ak rfl kR (.slice AL q cL) q (cZ .u16 ls) kU ((G.alloc _).drew) ⟨wb,0,none⟩ 1 1 [.int .u16 (lo:Nat)] kU kU (World.news_of_block (cs:=#[.int .u16 (lo:Nat)]) (t:=25) (fr:=(0,0)) (heap_alloc_new wb _)) kA kR nI kR ni (wb.heap.size+1) mY ?_;intro g4 J w4 Y i U aV;have gb:w4.heap[g]? =wb.heap[g]? :=(i.block g ni ag).trans (Ca wb _ g aj);have p0:=(World.cell?_of_block (a:=⟨g,0,none⟩) gb).trans d0;have p2:=(World.cell?_of_block (a:=⟨g,2,none⟩) gb).trans d2;have q2:=(World.frozen?_of_block (a:=⟨g,2,none⟩) gb).trans e2))
  all_goals
   have al:Prt t (w4.setCell ⟨g,2,none⟩ (.slice (some ⟨g4,0,none⟩) (q+1) J)) base g W (hs++ [hi]) (ls++ [lo]) (.slice (some ⟨g3,0,none⟩) (p+1) z) (.slice (some ⟨g4,0,none⟩) (q+1) J):=aq.out.lows aa ab (bZ (Ag _ wb)).drew i (by rw[<-Z.out];exact Y);have ay:Below base w (w4.setCell ⟨g,2,none⟩ (.slice (some ⟨g4,0,none⟩) (q+1) J)):=((au.out.alloc kR _).drew.grown i ni (fun y hy=>(Ae G y hy).1)).setCell (p:=⟨g,2,none⟩) af _;have zz:=ai.out.size;have av:Hid (Kept (fun y=>y<w.heap.size/\y≠g/\(Value.slice AH p cH).ownBlock≠some y/\(Value.slice AL q cL).ownBlock≠some y) w (w4.setCell ⟨g,2,none⟩ (.slice (some ⟨g4,0,none⟩) (q+1) J))):=(((ai.out.alloc (fun y hy=>by have:=hy.1;omega) _).drew.grown i (fun y hy=>by have:=hy.1;simp;omega) (fun y hy hk=>hk.2.2.2 hy))).set (fun h=>h.2.1 rfl) _
   have ax:Hid (∀y,y<w.heap.size->(Value.slice (some ⟨g4,0,none⟩) (q+1) J).ownBlock=some y->(Value.slice AL q cL).ownBlock=some y):=fun y hy he=>by
    rcases U with h|h
    ·rw[h];exact he
    ·have e:g4=y:=(by injection he);omega
   clear U;go_wp2_with fail
   go_end0
   exact⟨rfl,_,_,al,ay,av.out,ax.out⟩
end Ef
namespace Ef
open Go.RowKit Mem Own Canon Huff NumPut
open Block (uZ)
theorem own_row{k:IntKind}(h:w.ownsRow base e 1 (.slice A n c) n (cZ k ls))(hn:ls.length=n):Row w w A n 1 (jZ k ls):=
 Row.of_own h rfl (fun i j hi hj=>by have e0:j=0:=kR;subst e0;exact numL_get kR)
end Ef
namespace Body
open Go.RowKit Mem Own Canon Nums
theorem own_far{e':TypeId}{s' n':Nat}{v:Value}{j:List Value}(h:w.ownsRow base e s v n xs)(h2:w.ownsRow i e' s' v' n' j)(z:e'≠e)(hg:w.grownBy w' v'.ownBlock):w'.ownsRow base e s v n xs:=
 dZ h fun y hy=>hg.block y (Ae h y hy).2 fun e2=>by
  rcases Fh h2 h z with e3|e3
  ·rw[e3]at e2;cases e2
  ·exact e3 (by rw[<-e2,hy])
theorem Nv{P:Program}{j:Array Oper}{o:Oper}{a:Act}{K:Act->World->Prop}{Q:Exit->Act->World->Prop}{E:Prop}(y:o.guard=none)(s x:Operand)(t:TypeId)
 (ho:o.op= .call {callee:= .builtin .append,args:=#[s,x],argTypes:=#[t,t] })
 (base:Nat)(e:TypeId)(i:TypeInfo)(z:Value)(size bytes:Nat)(ht:P.underlying t=some (.slice e))(hi:P.info? e=some i)(hz:i.zero=some z)
 (hsize:i.size=size)(hby:i.bytes=bytes)(hzs:z.cells.size=size)(hsz:0<size)
 (v:Value)(n:Nat)(xs:List Value)(hs:a.eval s=v)(hown:w.ownsRow base e size v n xs)
 (A:Option Addr)(m c:Nat)(news:List Value)(hx:a.eval x= .slice A m c)(hsrc:Src w A m c size news)(h1:∀u∈news,u.oneCell'=true)
 (h63:n+m<=maxLen)(hbytes:(n+m)*bytes<=140737488355328)(hbase:base<=w.heap.size)
 (h:∀A' c' w',w'.ownsRow base e size (.slice A' (n+m) c') (n+m) (xs++news)->w.grownBy w' v.ownBlock->((Value.slice A' (n+m) c').ownBlock=v.ownBlock∨(Value.slice A' (n+m) c').ownBlock=some w.heap.size)->K (a.put o.dst (.slice A' (n+m) c')) w'):
 if Region.wanted o (yielded j a.tmps)=true then Oper.wp P o a w K Q else E:=by
 have hw:Region.wanted o (yielded j a.tmps)=true:=by simp[Region.wanted,y]
 rw[Ab hw];obtain⟨v',w',hr,h2,h3,h4⟩:=LX (P:=P) w base t o.type e i z size bytes ht hi hz hsize hby hzs hsz v n xs hown A m c news hsrc h1 h63 hbytes hbase;obtain⟨A',c',rfl⟩:=aZ h2;unfold Oper.wp execOp;simp only[ho,resolve,invoke,builtin,Sem.run_bind,Sem.run_pure,Result.andThen_ok,List.map_toArray,List.map_cons,List.map_nil,hs,hx,hr];exact h A' c' w' h2 h3 h4
def DJ(rec:Nat)(ls:List Nat):Nat->Nat->Int->List Nat->List Nat->List Nat×List Nat×Nat×Int
 |0,at_,er,cs,ss=>(cs,ss,at_,er)
 |k+1,at_,er,cs,ss=>if er≠0 then(cs,ss,at_,er)else DJ rec ls k (nZ 8388608 ls (nZ rec ls at_ 0) (oZ rec ls at_ 0)) (oZ 8388608 ls (nZ rec ls at_ 0) (oZ rec ls at_ 0)) (cs++ [zZ rec ls at_ 0]) (ss++ [zZ 8388608 ls (nZ rec ls at_ 0) (oZ rec ls at_ 0)])
theorem Qp{rec:Nat}{cs ss:List Nat}(h:er≠0):DJ rec ls k at_ er cs ss=(cs,ss,at_,er):=by
 cases k with
 |zero=>rfl
 |succ k=>exact Ab h
def Co(ls:List Nat):Nat:=zZ 20000 ls 0 0
def EZ(ls:List Nat):Nat:=zZ (Co ls) ls (nZ 20000 ls 0 0) (oZ 20000 ls 0 0)
def Fo(ls:List Nat):List Nat×List Nat×Nat×Int:=DJ (Co ls) ls (EZ ls) (nZ (Co ls) ls (nZ 20000 ls 0 0) (oZ 20000 ls 0 0)) (oZ (Co ls) ls (nZ 20000 ls 0 0) (oZ 20000 ls 0 0)) [] []
def Bj(ls:List Nat):List Nat:=(Fo ls).1
def By(ls:List Nat):List Nat:=(Fo ls).2.1
def dP(ls:List Nat):Nat:=zZ 8388608 ls (Fo ls).2.2.1 (Fo ls).2.2.2
def dPA(ls:List Nat):Nat:=nZ 8388608 ls (Fo ls).2.2.1 (Fo ls).2.2.2
def dPE(ls:List Nat):Int:=oZ 8388608 ls (Fo ls).2.2.1 (Fo ls).2.2.2
def dQ(ls:List Nat):Nat:=zZ 8388608 ls (dPA ls) (dPE ls)
def dE(ls:List Nat):Int:=Fb ls (nZ 8388608 ls (dPA ls) (dPE ls)) (oZ 8388608 ls (dPA ls) (dPE ls))
def EX(room:Nat)(ls:List Nat):Int:=if dE ls≠0 then dE ls else if 0∈Bj ls∨(Bj ls).sum≠Co ls∨(By ls).sum+dP ls+dQ ls≠room then 2 else 0
theorem KR{rec:Nat}{ls:List Nat}:∀ (k at_:Nat) (er:Int) (cs ss:List Nat),cs.length=ss.length->(DJ rec ls k at_ er cs ss).1.length=(DJ rec ls k at_ er cs ss).2.1.length/\(DJ rec ls k at_ er cs ss).1.length<=cs.length+k/\((DJ rec ls k at_ er cs ss).2.2.2=0->(DJ rec ls k at_ er cs ss).1.length=cs.length+k)
 |0,_,_,_,_,h=>⟨h,Ai _,fun _=>rfl⟩
 |k+1,at_,er,cs,ss,h=>by
  unfold DJ;split
  ·rename_i he;exact⟨h,Nat.le_add_right _ _,fun h2=>absurd h2 he⟩
  ·obtain⟨h1,h2,h3⟩:=KR (rec:=rec) (ls:=ls) k (nZ 8388608 ls (nZ rec ls at_ 0) (oZ rec ls at_ 0)) (oZ 8388608 ls (nZ rec ls at_ 0) (oZ rec ls at_ 0)) (cs++ [zZ rec ls at_ 0]) (ss++ [zZ 8388608 ls (nZ rec ls at_ 0) (oZ rec ls at_ 0)]) (by rw[Aj,Aj,h];rfl);rw[Aj]at h2 h3;exact⟨h1,by simp at h2;omega,fun h4=>by have:=h3 h4;simp at this;omega⟩
theorem Nm{rec:Nat}{ls:List Nat}(h8:∀x∈ls,x<=255):∀ (k at_:Nat) (er:Int) (cs ss:List Nat),(∀x∈cs,x<=rec)->(∀x∈ss,x<=8388608)->(∀x∈(DJ rec ls k at_ er cs ss).1,x<=rec)/\(∀x∈(DJ rec ls k at_ er cs ss).2.1,x<=8388608)
 |0,_,_,_,_,h,h2=>⟨h,h2⟩
 |k+1,at_,er,cs,ss,h,h2=>by
  unfold DJ;split
  ·exact⟨h,h2⟩
  ·refine Nm h8 k _ _ _ _ (fun x hx=> ?_) (fun x hx=> ?_)
   ·rcases BN.1 hx with h'|h'
    ·exact h x h'
    ·rw[Dw]at h';rw[h'];exact CI h8 _ _
   ·rcases BN.1 hx with h|h'
    ·exact h2 x h
    ·rw[Dw]at h';rw[h'];exact CI h8 _ _
theorem J9:∀ (l:List Nat) (m:Nat),(∀x∈l,x<=m)->l.sum<=l.length*m
 | [],_,_=>mY
 |x :: l,m,h=>by rw[GU,Bu,FJ];have h1:=J9 l m (fun y hy=>h y (Fv _ hy));have h2:=h x (Fu ..);omega
structure DrI (w wr:World) (gb:Nat) (t:TypeId) (rest:List Value) (g:Nat) (ls:List Nat) (B:Option Addr) (d at_:Nat) (er:Int) (C S:List Nat) (vc vs:Value):Prop where
 cur:Cur wr g w ls B d at_ er
 blk:Blk wr gb t (vc :: vs :: rest).toArray
 oc:wr.ownsRow w 3 1 vc C.length (cZ .i64 C)
 os:wr.ownsRow w 3 1 vs S.length (cZ .i64 S)
 ap:∀y,vc.ownBlock=some y->vs.ownBlock≠some y
 kept:Kept (fun x=>x<w.heap.size/\x≠gb) w wr
 lt:gb<w.heap.size
 ti:3≠t
 tu:5≠t
section
variable {w wr w1 w2 w3:World} {gb:Nat} {t:TypeId} {rest:List Value} {g:Nat} {ls:List Nat} {B:Option Addr} {d at_ a2:Nat} {er e2:Int} {C S:List Nat} {vc vs v3:Value} {x:Nat}
theorem DrI.call(h:DrI w wr gb t rest g ls B d at_ er C S vc vs)(j:Cur w2 g w ls B d a2 e2)(i:Kept (AW g wr) wr w2):DrI w w2 gb t rest g ls B d a2 e2 C S vc vs:=
 have hz:=h.kept.size;have z:=h.cur.lo;have E:=h.lt
 ⟨j,(i.block gb ⟨h.blk.lt,kR⟩).trans h.blk,dZ h.oc (fun y hy=>i.block y ⟨(Ae h.oc y hy).2,fun e=>fZ h.oc h.cur.blk iX (e ▸ hy)⟩),dZ h.os (fun y hy=>i.block y ⟨(Ae h.os y hy).2,fun e=>fZ h.os h.cur.blk iX (e ▸ hy)⟩),h.ap,h.kept.trans ⟨i.os,i.tape,i.output,i.size,fun y hy=>i.block y ⟨ku,ku⟩⟩,h.lt,h.ti,h.tu⟩
theorem DrI.cs(h:DrI w wr gb t rest g ls B d at_ er C S vc vs):wr.cell? ⟨gb,0,none⟩=some vc/\wr.cell? ⟨gb,1,none⟩=some vs:=by have h0:=h.blk.iO 0;have h1:=h.blk.iO 1;exact⟨h0,h1⟩
theorem DrI.third{x2:Value}(h:DrI w wr gb t (x2 :: rest) g ls B d at_ er C S vc vs){u:Value}:DrI w (wr.setCell ⟨gb,2,none⟩ u) gb t (u :: rest) g ls B d at_ er C S vc vs:=by have i:=h.cur.lo;have j:=h.lt;exact⟨⟨h.cur.blk.far mW _,sZ h.cur.own (fZ h.cur.own h.blk h.tu) _,h.cur.le,h.cur.lo⟩,by simpa using h.blk.set 2 u,sZ h.oc (fZ h.oc h.blk h.ti) _,sZ h.os (fZ h.os h.blk h.ti) _,h.ap,h.kept.set (fun hk=>hk.2 rfl) _,h.lt,h.ti,h.tu⟩
theorem DrI.fourth{x2 x3:Value}(h:DrI w wr gb t (x2 :: x3 :: rest) g ls B d at_ er C S vc vs){u:Value}:DrI w (wr.setCell ⟨gb,3,none⟩ u) gb t (x2 :: u :: rest) g ls B d at_ er C S vc vs:=by have i:=h.cur.lo;have j:=h.lt;exact⟨⟨h.cur.blk.far mW _,sZ h.cur.own (fZ h.cur.own h.blk h.tu) _,h.cur.le,h.cur.lo⟩,by simpa using h.blk.set 3 u,sZ h.oc (fZ h.oc h.blk h.ti) _,sZ h.os (fZ h.os h.blk h.ti) _,h.ap,h.kept.set (fun hk=>hk.2 rfl) _,h.lt,h.ti,h.tu⟩
theorem Hq{y:List Nat}(h:w.ownsRow base 3 1 (.slice A n c) n (cZ .i64 y))(hn:y.length=n):Row w w A n 1 (jZ .i64 y):=
 Row.of_own h rfl fun i j hi hj=>by
  obtain rfl:j=0:=kR
  unfold cZ;rw[EF,CT,B0,AE kR];unfold jZ;rw[Ar,AE kR];rfl
theorem DrI.count(h:DrI w wr gb t rest g ls B d at_ er C S vc vs)(hb:aO wr w1)(hg:w1.grownBy w3 vc.ownBlock)(i:w3.ownsRow w 3 1 v3 (C.length+1) (cZ .i64 C++ [.int .i64 (x:Nat)]))(z:v3.ownBlock=vc.ownBlock∨v3.ownBlock=some w1.heap.size):
 DrI w (w3.setCell ⟨gb,0,none⟩ v3) gb t rest g ls B d at_ er (C++ [x]) S v3 vs:=by
 have b3:=(h.blk.step hb).grown hg (Br (fZ h.oc h.blk h.ti));have o1:w1.ownsRow w 3 1 vs S.length (cZ .i64 S):=dZ h.os (fun y hy=>hb.block y (Ae h.os y hy).2);have o3:w3.ownsRow w 3 1 vs S.length (cZ .i64 S):=dZ o1 (fun y hy=>hg.block y (Ae o1 y hy).2 (fun e=>h.ap y e.symm hy));have c1:=h.cur.step hb;have j:w1.ownsRow w 3 1 vc C.length (cZ .i64 C):=dZ h.oc (fun y hy=>hb.block y (Ae h.oc y hy).2);have c3:Cur w3 g w ls B d at_ er:=⟨c1.blk.grown hg (Br (fZ j c1.blk iX)),own_far c1.own j iX hg,c1.le,c1.lo⟩;have E:=h.cur.lo;have G:=h.lt;refine⟨⟨c3.blk.far mW _,sZ c3.own (fZ c3.own b3 h.tu) _,c3.le,c3.lo⟩,by simpa using b3.set 0 v3,?_,sZ o3 (fZ o3 b3 h.ti) _,?_,?_,h.lt,h.ti,h.tu⟩
 ·rw[Aj,show cZ .i64 (C++ [x])=cZ .i64 C++ [.int .i64 (x:Nat)] by simp[cZ]];exact sZ i (fZ i b3 h.ti) _
 ·intro y hy hh;rcases z with e|e
  ·exact h.ap y (by rw[<-e];exact hy) hh
  ·rw[e]at hy;injection hy with hy;have:=(Ae h.os y hh).2;have:=hb.size;omega
 ·have hz:=h.kept.size;exact((h.kept.trans (Kept.of_below hb (fun y hy=>by have:=hy.1;omega))).grown hg (fun y hy=>by have:=hy.1;have:=hb.size;omega) (fun y hy hk=>by have:=(Ae h.oc y hy).1;have:=hk.1;omega)).set (fun hk=>hk.2 rfl) _
theorem DrI.size(h:DrI w wr gb t rest g ls B d at_ er C S vc vs)(hb:aO wr w1)(hg:w1.grownBy w3 vs.ownBlock)(i:w3.ownsRow w 3 1 v3 (S.length+1) (cZ .i64 S++ [.int .i64 (x:Nat)]))(z:v3.ownBlock=vs.ownBlock∨v3.ownBlock=some w1.heap.size):
 DrI w (w3.setCell ⟨gb,1,none⟩ v3) gb t rest g ls B d at_ er C (S++ [x]) vc v3:=by
 have b3:=(h.blk.step hb).grown hg (Br (fZ h.os h.blk h.ti));have o1:w1.ownsRow w 3 1 vc C.length (cZ .i64 C):=dZ h.oc (fun y hy=>hb.block y (Ae h.oc y hy).2);have o3:w3.ownsRow w 3 1 vc C.length (cZ .i64 C):=dZ o1 (fun y hy=>hg.block y (Ae o1 y hy).2 (fun e=>h.ap y hy e.symm));have c1:=h.cur.step hb;have j:w1.ownsRow w 3 1 vs S.length (cZ .i64 S):=dZ h.os (fun y hy=>hb.block y (Ae h.os y hy).2);have c3:Cur w3 g w ls B d at_ er:=⟨c1.blk.grown hg (Br (fZ j c1.blk iX)),own_far c1.own j iX hg,c1.le,c1.lo⟩;have E:=h.cur.lo;have G:=h.lt;refine⟨⟨c3.blk.far mW _,sZ c3.own (fZ c3.own b3 h.tu) _,c3.le,c3.lo⟩,by simpa using b3.set 1 v3,sZ o3 (fZ o3 b3 h.ti) _,?_,?_,?_,h.lt,h.ti,h.tu⟩
 ·rw[Aj,show cZ .i64 (S++ [x])=cZ .i64 S++ [.int .i64 (x:Nat)] by simp[cZ]];exact sZ i (fZ i b3 h.ti) _
 ·intro y hy hh;rcases z with e|e
  ·exact h.ap y hy (by rw[<-e];exact hh)
  ·rw[e]at hh;injection hh with hh;have:=(Ae h.oc y hy).2;have:=hb.size;omega
 ·have hz:=h.kept.size;exact((h.kept.trans (Kept.of_below hb (fun y hy=>by have:=hy.1;omega))).grown hg (fun y hy=>by have:=hy.1;have:=hb.size;omega) (fun y hy hk=>by have:=(Ae h.os y hy).1;have:=hk.1;omega)).set (fun hk=>hk.2 rfl) _
end
end Body
namespace Ef
open Go.RowKit Mem Own Canon Huff NumPut
def Cc(W:Nat)(bs:List Bool)(n:Nat):List Nat:=(List.range n).map fun i=>yZ bs (i*W) W
theorem Mv(W:Nat)(bs:List Bool)(n:Nat):(Cc W bs n).length=n:=by simp[Cc]
theorem Xc(W:Nat)(bs:List Bool)(n:Nat):Cc W bs (n+1)=Cc W bs n++ [yZ bs (n*W) W]:=by simp[Cc,List.range_succ]
theorem Qe(W:Nat)(bs:List Bool)(n:Nat):∀x∈Cc W bs n,x<2 ^ W:=by intro x hx;obtain⟨i,_,rfl⟩:=ET.1 hx;exact Ev _ _ _
def rowN(bound W:Nat)(bs:List Bool):List Nat->Nat->Nat->List Nat->List Nat×Nat×Int
 | [],at_,_,acc=>(acc,at_,0)
 |x :: xs,at_,high,acc=>
  if unE bs at_≠0 then([],at_,unE bs at_)
  else if acc≠ []/\(high+unV bs at_)*2 ^ W+x<=acc.getLast?.getD 0 then([],at_,2)
  else if bound<=(high+unV bs at_)*2 ^ W+x then([],at_,8)
  else rowN bound W bs xs (unA bs at_) (high+unV bs at_) (acc++ [(high+unV bs at_)*2 ^ W+x])
def Fe(at_:Nat):Nat:=(8-at_ % 8) % 8
def Ga(bound n:Nat)(bs:List Bool):List Nat×Nat×Int:=
 if bs.length<n*efW bound n then([],0,1)
 else if(rowN bound (efW bound n) bs (Cc (efW bound n) bs n) (n*efW bound n) 0 []).2.2≠0 then([],0,(rowN bound (efW bound n) bs (Cc (efW bound n) bs n) (n*efW bound n) 0 []).2.2)
 else if yZ bs (rowN bound (efW bound n) bs (Cc (efW bound n) bs n) (n*efW bound n) 0 []).2.1 (Fe (rowN bound (efW bound n) bs (Cc (efW bound n) bs n) (n*efW bound n) 0 []).2.1)≠0 then([],0,2)
 else((rowN bound (efW bound n) bs (Cc (efW bound n) bs n) (n*efW bound n) 0 []).1,((rowN bound (efW bound n) bs (Cc (efW bound n) bs n) (n*efW bound n) 0 []).2.1+7) / 8,0)
theorem MT{bs:List Bool}(h:at_<=bs.length):unA bs at_<=bs.length:=by unfold unA;split<;>omega
theorem Pz(bs:List Bool)(at_:Nat):unV bs at_<=bs.length:=by unfold unV;split<;>omega
theorem RD{bound W:Nat}{bs:List Bool}:∀ (xs:List Nat) (at_ i:Nat) (j:List Nat),at_<=bs.length->(rowN bound W bs xs at_ i j).2.1<=bs.length
 | [],at_,_,_,h=>h
 |x :: xs,at_,i,j,h=>by
  unfold rowN;split
  ·exact h
  ·split
   ·exact h
   ·split
    ·exact h
    ·exact RD xs _ _ _ (MT h)
theorem Rr(h x W:Nat)(hx:x<2 ^ W):(h*2 ^ W |||x)=h*2 ^ W+x:=by rw[Nat.mul_comm,Nat.two_pow_add_eq_or_of_lt hx]
end Ef
namespace Ef
open Go.RowKit Mem Own Canon Huff NumPut
def Cs(W:Nat)(bs:List Bool)(n k:Nat):List Value:=(List.range n).map fun i=>Value.int .u16 ((if i<k then yZ bs (i*W) W else 0:Nat):Int)
theorem UR(W:Nat)(bs:List Bool)(n k:Nat):(Cs W bs n k).length=n:=by simp[Cs]
theorem KK{bs:List Bool}(h:i<n):(Cs W bs n k)[i]? =some (.int .u16 ((if i<k then yZ bs (i*W) W else 0:Nat):Int)):=by simp[Cs,h]
theorem YV{bs:List Bool}:(Cs W bs n k).toArray.setIfInBounds k (.int .u16 (yZ bs (k*W) W:Nat))=(Cs W bs n (k+1)).toArray:=by
 apply Array.ext_getElem?
 intro i;rw[GX];by_cases e:k=i
 ·subst e;by_cases hk:k<n
  ·rw[Ab rfl,Ab (by simpa[Cs]using hk)];simp only[List.getElem?_toArray];rw[KK hk,Ab kR]
  ·rw[Ab rfl,Aa (by simpa[Cs]using hk)];simp[Cs,hk]
 ·rw[Aa e];simp only[List.getElem?_toArray];by_cases hi:i<n
  ·rw[KK hi,KK hi];congr 3;by_cases h2:i<k
   ·rw[Ab h2,Ab kR]
   ·rw[Aa h2,Aa kR]
  ·simp[Cs,hi]
theorem Sb(W:Nat)(bs:List Bool)(n:Nat):Cs W bs n n=cZ .u16 (Cc W bs n):=by unfold Cs Cc cZ;rw[List.map_map];apply JT;intro i hi;simp only[Function.comp];rw[Ab (ES.1 hi)]
theorem U4(W:Nat)(bs:List Bool)(n:Nat):madeCells #[.int .u16 0] n=(Cs W bs n 0).toArray:=by
 apply Array.ext_getElem?
 intro i;by_cases h:i<n
 ·simp[Cs,madeCells,h,Nat.mod_one]
 ·simp[Cs,madeCells,h]
theorem UN:(prog.info? 25).map (fun i=>(i.zero,i.size,i.bytes))=some (some (.int .u16 0),1,2):=kG
theorem Uy(n:Nat)(hn:n<=8388608)(w:World):(Instr.makeSlice 227 (.int .i64 (n:Int)) (.int .i64 (n:Int))).run prog w=
 .ok (.slice (some ⟨w,0,none⟩) n n) (w.alloc (.cells (madeCells #[.int .u16 0] n) 25)):=by
 obtain⟨i0,hi,y,i,j⟩:=info_parts UN;have h:=run_make (P:=prog) w 227 25 i0 (.int .u16 0) underlying227 hi y .i64 .i64 (n:Int) (n:Int) kR (Int.le_refl _) mr kR;simp only[Int.toNat_natCast]at h;simpa[i,Value.cells]using h
def ND(w:World)(lo g:Nat)(bs:List Bool)(n W:Nat)(e:Ending)(w':World):Prop:=
 Kept (fun x=>x<w.heap.size/\x≠g) w w'/\if bs.length<n*W then e= .returned (.tuple #[(), .int .i64 1])
 else ∃v,e= .returned (.tuple #[v,iT])/\w'.ownsRow w 25 1 v n (cZ .u16 (Cc W bs n))/\Rd w' lo g bs (n*W)
theorem YG(w:World)(lo g:Nat)(bs:List Bool)(n W:Nat)(hn:n<=20000)(hW:W<=14)(M:lo<=g)(hR:Rd w lo g bs 0):
 Calls prog 295 #[.pointer (some ⟨g,0,none⟩), .int .i64 (n:Nat), .int .i64 (W:Nat)] w (ND w lo g bs n W):=by
 have az:=hR.lt;have hz:bs.length<=800000:=kI
 have D0:=hid (left_any w lo g bs 0 hR);have HR:=hid hR;have aq:n*W<=280000:=AY (GT hn hW) iX;obtain⟨N,hN⟩:=iS (n*W);have ax:IntKind.i64.wrap ((n:Int)*(W:Int))=(N:Int):=by rw[show(n:Int)*(W:Int)=(N:Int) by rw[hN];simp,Am _ kR]
 have ag:=Uy n kR;rw[U4 W bs n]at ag;unfold ND;rw[<-hN]at aq ⊢;have HN:=hid hN;rw[Nat.sub_zero]at D0;clear hR hN;by_cases E:bs.length<N
 ·simp only[if_pos E];have g1:=iQ ((bs.length:Int)<N)
  have ab:=iQ (bs.length<N)
  clear E;generalize bs.length=z at *;go_enter func295,ntmps295;go_wp2_with fail;refine D0.out.mono ?_;rintro e w1 ⟨rfl,q,rfl⟩;go_wp2_with fail;go_ret2;exact⟨(Kept.refl _ _).drewN q,rfl⟩
 ·simp only[if_neg E];have g1:=iR ((bs.length:Int)<N)
  have ab:=iR (bs.length<N)
  have am:Hid (N<=bs.length):=mI
  obtain⟨z,Q⟩:=iS bs.length;rw[<-Q]at D0 g1 ab hz;clear E Q;go_enter func295,ntmps295;go_wp2_with fail;refine D0.out.mono ?_;rintro e w1 ⟨rfl,q,hq⟩;have an:Hid (Rd w1 lo g bs 0):=by rw[hq];exact HR.out.drewN q
  have al:Hid (Kept (fun x=>x<w.heap.size/\x≠g) w w1):=mo
  have U:w1.heap.size=w.heap.size:=by rw[hq];rfl
  clear hq;go_wp2_with fail;have L:Blk (w1.alloc (.cells (Cs W bs n 0).toArray 25)) w1 25 (Cs W bs n 0).toArray:=Blk.made _ _ _;have Z:Hid (Rd (w1.alloc (.cells (Cs W bs n 0).toArray 25)) lo g bs 0):=an.out.keep (fun b hb1 hb2=>Ca w1 _ b kR) M;have ah:Hid (Kept (fun x=>x<w.heap.size/\x≠g) w (w1.alloc (.cells (Cs W bs n 0).toArray 25))):=al.out.alloc (fun x hx=>by have:=hx.1;omega) _;generalize w1.alloc (.cells (Cs W bs n 0).toArray 25)=w2 at *;have aa:=hid L;clear L ag D0;rw[U]at *;clear U;generalize ai:w.heap.size=b at *;have av:=hid ai;clear ai;go_loopw [22] (fun iv wr=>∃k:Nat,k<=n/\iv= .int .i64 k/\Hid (Blk wr b 25 (Cs W bs n k).toArray)/\Hid (Rd wr lo g bs (k*W))/\Hid (Kept (fun x=>x<b/\x≠g) w wr)) (fun iv _=>n-(intOf iv).toNat)
  case atStart=>exact⟨0,kR,rfl,aa.out,by rw[Nat.zero_mul];exact Z.out,ah.out⟩
  case round=>
   obtain⟨k,hk,rfl,HB,J,HK⟩:=hrel;clear aa Z ah;by_cases af:k<n
   ·have gk:=iQ ((k:Int)<n);have ay:=iQ (k<n);have j:k*W+W<=bs.length:=(by have h1:(k+1)*W<=n*W:=Fk W af;rw[FJ]at h1;have:=HN.out;have:=am.out;omega);have D:=JB wr lo g bs (k*W) W kR J.out;unfold Gu Gr Gq at D;rw[Ab j,Ab j,Ab j]at D;have hv:yZ bs (k*W) W<2 ^ W:=Ev _ _ _;have aQ:yZ bs (k*W) W<16384:=Em hv jS;have HS:Hid ((Cs W bs n k).toArray.setIfInBounds k (.int .u16 (yZ bs (k*W) W:Nat))=(Cs W bs n (k+1)).toArray):=YV;have aj:k*W+W=(k+1)*W:=(by rw[FJ]);rw[aj]at D;generalize yZ bs (k*W) W=y at *;have aP:IntKind.u16.wrap (y:Int)=(y:Int):=(by rw[IntKind.wrap_u16];omega);have D:=hid D;have x0:(0:Int)<=(k:Int):=kR;have x1:(k:Int)<(n:Int):=kR;have ak:Hid (∃u,(Cs W bs n k).toArray[k]? =some u):=⟨_,by simp only[List.getElem?_toArray];exact KK af⟩;clear j hv aj;go_wp2_with fail;refine D.out.mono ?_;rintro e w3 ⟨rfl,ac,i⟩;have G:Hid (Blk w3 b 25 (Cs W bs n k).toArray):=(i.block b kR).trans HB.out;have ae:Hid (Kept (fun x=>x<b/\x≠g) w w3):=HK.out.trans ⟨i.os,i.tape,i.output,i.size,fun x hx=>i.block x hx.2⟩;have Y:=hid ac;obtain⟨u,hu⟩:=ak.out;have c3:w3.cell? ⟨b,k,none⟩=some u:=(G.out.cell k).trans hu;have f3:=G.out.frozen k;clear ac i HB J HK D hu ak;go_wp2_with fail;have aw:Hid (Blk (w3.setCell ⟨b,k,none⟩ (.int .u16 (y:Nat))) b 25 (Cs W bs n (k+1)).toArray):=(by rw[<-HS.out];exact G.out.set k _);have au:Hid (Rd (w3.setCell ⟨b,k,none⟩ (.int .u16 (y:Nat))) lo g bs ((k+1)*W)):=Y.out.keep (fun x _ hx2=>AJ w3 _ _ x (show x≠b by omega)) M;have ar:Hid (Kept (fun x=>x<b/\x≠g) w (w3.setCell ⟨b,k,none⟩ (.int .u16 (y:Nat)))):=ae.out.set (p:=⟨b,k,none⟩) (fun h=>absurd h.1 mY) _;clear G Y ae c3 f3;go_roundw
    case measure=>exact jw
    case rel=>go_light;exact⟨k+1,kR,i5,aw.out,au.out,ar.out⟩
   ·obtain rfl:k=n:=by omega
    have gk:=iR ((k:Int)<k);go_wp2_with fail;go_ret2;rw[av.out];refine⟨HK.out,_,rfl,⟨by rw[<-Sb,UR];simp, .inr ⟨b,k,_,rfl,Ai _,HB.out,Ai _,nI,by simp[Cs],?_⟩⟩,by rw[HN.out];exact J.out⟩;rw[<-Sb,EF];exact BR (by simp[Cs])
end Ef
namespace Idx
open Go.RowKit Mem Own Canon Sift
open NumPut Recs Crc Block
open Nums
def toS(ls:List Nat):Str:=ls.map UInt8.ofNat
theorem OH(ls:List Nat):DQ ls=bs (toS ls):=rfl
def nxN(ls:List Nat)(was:Str)(first:Bool)(at_:Nat):Nat:=if first then 0 else zZ was.length ls at_ 0
def nxA(ls:List Nat)(was:Str)(first:Bool)(at_:Nat):Nat:=if first then at_ else nZ was.length ls at_ 0
def nxE(ls:List Nat)(was:Str)(first:Bool)(at_:Nat):Int:=if first then 0 else oZ was.length ls at_ 0
def nxS(was:Str)(first:Bool)(n:Nat)(t:Str)(a:Nat)(e:Int):Str×Nat×Int:=
 if e≠0 then([],a,e)else if t= []∨BH was (was.take n++t)=false∨(first=false/\Bz was (was.take n++t)≠n)then(was.take n++t,a,2)else(was.take n++t,a,0)
def EV(ls:List Nat)(was:Str)(first:Bool)(at_:Nat):Str×Nat×Int:=
 nxS was first (nxN ls was first at_) (toS (Di 25 ls (nxA ls was first at_) (nxE ls was first at_))) (CL 25 ls (nxA ls was first at_) (nxE ls was first at_)) (CK 25 ls (nxA ls was first at_) (nxE ls was first at_))
theorem Ny(s:Str)(n:Nat)(hn:n<=s.length)(w:World):(Instr.slice 9 (.string (bs s)) none (some (.int .i64 (n:Int))) none).run prog w= .ok (.string (bs (s.take n))) w:=by
 have hz:=CO s;rw[run_slice_string_h w (t:=9) (s:=bs s) (ht:=underlying9) .i64 (n:Int) kR kR,CA];have e:(bs s).extract 0 n=bs (s.take n):=by refine ByteArray.ext (Array.ext' ?_);rw[YQ,Io,Hk,Nat.sub_zero];rfl
 rw[e]
theorem MP(a b:Str):bs a++bs b=bs (a++b):=by refine ByteArray.ext (Array.ext' ?_);simp[bs]
theorem Pq{most:Nat}(h8:∀x∈ls,x<=255)(at_:Nat)(er:Int):(Di most ls at_ er).length<=most:=by
 unfold Di;split
 ·exact Ba _
 ·exact(Lj most (ls.drop at_) fun x hx=>h8 x (Be hx)).1
theorem Yr(w:World)(g base:Nat)(ls:List Nat)(A:Option Addr)(c at_:Nat)(i:Str)(first:Bool)(aj:ls.length<=100000)(h8:∀x∈ls,x<=255)(aT:i.length<=25)(h:Cur w g base ls A c at_ 0):
 Calls prog 245 #[.pointer (some ⟨g,0,none⟩), .string (bs i),first] w fun e w'=>e= .returned (.string (bs (EV ls i first at_).1))/\Cur w' g base ls A c (EV ls i first at_).2.1 (EV ls i first at_).2.2/\Kept (AW g w) w w':=by
 have hz:=CO i;have aU:=h.blk.lt;obtain⟨R,hR⟩:=iS (EV ls i first at_);rw[<-hR];unfold EV at hR;have D1:=hid (fun wx hx=>GJ wx g base ls A c at_ 0 i.length aj h8 kR hx)
 have hn:nxN ls i first at_<=i.length:=by
  unfold nxN;split
  ·exact Ba _
  ·exact CI h8 _ _
 have D2:=hid (fun wx hx=>NE wx g base ls A c (nxA ls i first at_) (nxE ls i first at_) 25 aj h8 kR hx);have av:=Pq (most:=25) h8 (nxA ls i first at_) (nxE ls i first at_);rw[OH]at D2
 have HN:Hid ((first=true->nxN ls i first at_=0/\nxA ls i first at_=at_/\nxE ls i first at_=0)/\(first=false->nxN ls i first at_=zZ i.length ls at_ 0/\nxA ls i first at_=nZ i.length ls at_ 0/\nxE ls i first at_=oZ i.length ls at_ 0)):=by
  constructor
  ·intro hf;subst hf;exact⟨rfl,rfl,rfl⟩
  ·intro hf;subst hf;exact⟨rfl,rfl,rfl⟩
 generalize nxN ls i first at_=n at *;generalize nxA ls i first at_=a1 at *;generalize nxE ls i first at_=e1 at *;obtain⟨t,ht⟩:=iS (toS (Di 25 ls a1 e1));have aR:t.length<=25:=by rw[ht];unfold toS;rw[Cg];exact av
 rw[<-ht]at D2 hR;generalize CL 25 ls a1 e1=a2 at *;generalize CK 25 ls a1 e1=e2 at *;have H:=hid h;unfold nxS at hR;clear h h8 aj ht av;have KH:=fun wx=>Ny i n hn wx;have ay:(i.take n).length<=25:=ln
 obtain⟨s,hs⟩:=iS (i.take n++t);have aX:s.length<=50:=by rw[hs,Aj];omega
 have HS:=hid hs;rw[<-hs]at hR;have aq:Hid (bs (i.take n)++bs t=bs s):=by show _=_;rw[MP,hs]
 have HH:Hid (n=0->i.take n= []):=fun h=>by rw[h];rfl
 have HR:=hid hR;clear hR;have DM:=hid (fun wx=>OO wx i s);have DA:=hid (fun wx=>Um wx i s kR kR);have HT:Hid ((t= []->((bs t).toList==({data:=#[] }:ByteArray).toList)=true/\((bs t).toList== [])=true/\(bs t).toList.isEmpty=true/\(bs t).toList= [])/\(t≠ []->((bs t).toList==({data:=#[] }:ByteArray).toList)=false/\((bs t).toList== [])=false/\(bs t).toList.isEmpty=false/\¬(bs t).toList= [])):=⟨fun h=>by rw[h];exact M7,fun h=>N7 t h⟩;generalize i.take n=hd at *;have ai:=hid (CO hd);have ae:=hid (CO t);obtain⟨aV,an⟩:=iS hd.length;obtain⟨tl,af⟩:=iS t.length;rw[<-an]at ai ay;rw[<-af]at ae aR;clear hs an af;have HF:Hid (Du 0 2=2):=Ab rfl;cases first with
 |true=>
  obtain⟨q1,q2,q3⟩:=HN.out.1 rfl;have ab:Hid (Cur w g base ls A c a1 e1):=by rw[q2,q3];exact H.out
  have Z:Hid (Kept (AW g w) w w):=Kept.refl _ _;have ak:=HH.out q1;have am:s=t:=by rw[HS.out,ak];rfl
  have ax:bs t=bs s:=by rw[am]
  rw[ax]at HT ae;have z2:=ae.out;clear am;clear q2 q3 HN H D1 aq HH ai ak KH HS;subst q1;go_enter func245,ntmps245;go_wp2_with fail;refine(D2.out _ ab.out).mono ?_;rintro e w2 ⟨rfl,aa,J⟩;have N:Hid (Kept (AW g w) w w2):=Z.out.trans ⟨J.os,J.tape,J.output,J.size,fun x hx=>J.block x ⟨Em hx.1 Z.out.size,hx.2⟩⟩;have DE:=hid (CJ w2 g base ls A c a2 e2 aa);have L:=hid aa;clear aa J ab Z D2;go_wp2_with fail;refine DE.out.mono ?_;rintro e az ⟨rfl,rfl⟩;by_cases he:e2=0
  ·skip
   subst he;rw[Aa (show ¬((0:Int)≠0) from fun h=>h rfl)]at HR;clear DE;by_cases ht:t= []
   ·obtain⟨b1,b2,b3,b4⟩:=HT.out.1 ht;have z:Hid (R=(s,a2,2)):=(by have h:=HR.out;rw[Ab (.inl ht)]at h;exact h);clear ht HT;have G:=L;have E:=N;go_wp2_with fail;refine(Gc _ g base ls A c a2 0 2 G.out).mono ?_;rintro e w5 ⟨rfl,y,j⟩;rw[HF.out]at y;have U:=hid y;have Q:Hid (Kept (AW g w) w w5):=E.out.trans ⟨j.os,j.tape,j.output,j.size,fun x hx=>j.block x hx.2⟩;clear y j G E;go_wp2_with fail;go_ret;rw[z.out];exact⟨rfl,U.out,Q.out⟩
   ·have ah:=hid ht;obtain⟨b1,b2,b3,b4⟩:=HT.out.2 ht;clear ht HT;obtain⟨M,hM⟩:=iS (BH i s);rw[<-hM]at DM;have HM:=hid hM;clear hM;by_cases Y:M=false
    ·have z:Hid (R=(s,a2,2)):=jG;subst Y;go_wp2_with fail;refine(DM.out _).mono ?_;rintro e w3 ⟨rfl,rfl⟩;have G:=L;have E:=N;go_wp2_with fail;refine(Gc _ g base ls A c a2 0 2 G.out).mono ?_;rintro e w5 ⟨rfl,y,j⟩;rw[HF.out]at y;have U:=hid y;have Q:Hid (Kept (AW g w) w w5):=E.out.trans ⟨j.os,j.tape,j.output,j.size,fun x hx=>j.block x hx.2⟩;clear y j G E;go_wp2_with fail;go_ret;rw[z.out];exact⟨rfl,U.out,Q.out⟩
    ·have ag:M=true:=iW;clear Y;subst ag;go_wp2_with fail;refine(DM.out _).mono ?_;rintro e w3 ⟨rfl,rfl⟩;have z:Hid (R=(s,a2,0)):=(by have h:=HR.out;rw[Aa (fun h=>h.elim ah.out (fun h=>h.elim (by rw[<-HM.out];decide) (fun h=>by cases h.1)))]at h;exact h);go_wp2_with fail;go_ret;rw[z.out];exact⟨rfl,L.out,N.out⟩
  ·have gE:(e2 != 0)=true:=nB;have z:Hid (R=([],a2,e2)):=(by have h:=HR.out;rw[Ab he]at h;exact h);clear he HR HT;go_wp2_with fail;go_ret;rw[z.out];exact⟨rfl,L.out,N.out⟩
 |false=>
  obtain⟨q1,q2,q3⟩:=HN.out.2 rfl;rw[<-q1,<-q2,<-q3]at D1;have z1:=ai.out;have z2:=ae.out;have aW:=aq.out;clear q1 q2 q3 HN HH;go_enter func245,ntmps245;go_wp2_with fail;refine(D1.out _ H.out).mono ?_;rintro e w1 ⟨rfl,au,ar⟩;have ab:=hid au;have Z:=hid ar;clear au ar H D1;go_wp2_with fail;refine(D2.out _ ab.out).mono ?_;rintro e w2 ⟨rfl,aa,J⟩;have N:Hid (Kept (AW g w) w w2):=Z.out.trans ⟨J.os,J.tape,J.output,J.size,fun x hx=>J.block x ⟨Em hx.1 Z.out.size,hx.2⟩⟩;have DE:=hid (CJ w2 g base ls A c a2 e2 aa);have L:=hid aa;clear aa J ab Z D2;go_wp2_with fail;refine DE.out.mono ?_;rintro e az ⟨rfl,rfl⟩;by_cases he:e2=0
  ·skip
   subst he;rw[Aa (show ¬((0:Int)≠0) from fun h=>h rfl)]at HR;clear DE;by_cases ht:t= []
   ·obtain⟨b1,b2,b3,b4⟩:=HT.out.1 ht;have z:Hid (R=(s,a2,2)):=(by have h:=HR.out;rw[Ab (.inl ht)]at h;exact h);clear ht HT;have G:=L;have E:=N;go_wp2_with fail;refine(Gc _ g base ls A c a2 0 2 G.out).mono ?_;rintro e w5 ⟨rfl,y,j⟩;rw[HF.out]at y;have U:=hid y;have Q:Hid (Kept (AW g w) w w5):=E.out.trans ⟨j.os,j.tape,j.output,j.size,fun x hx=>j.block x hx.2⟩;clear y j G E;go_wp2_with fail;go_ret;rw[z.out];exact⟨rfl,U.out,Q.out⟩
   ·have ah:=hid ht;obtain⟨b1,b2,b3,b4⟩:=HT.out.2 ht;clear ht HT;obtain⟨M,hM⟩:=iS (BH i s);rw[<-hM]at DM;have HM:=hid hM;clear hM;by_cases Y:M=false
    ·have z:Hid (R=(s,a2,2)):=jG;subst Y;go_wp2_with fail;refine(DM.out _).mono ?_;rintro e w3 ⟨rfl,rfl⟩;have G:=L;have E:=N;go_wp2_with fail;refine(Gc _ g base ls A c a2 0 2 G.out).mono ?_;rintro e w5 ⟨rfl,y,j⟩;rw[HF.out]at y;have U:=hid y;have Q:Hid (Kept (AW g w) w w5):=E.out.trans ⟨j.os,j.tape,j.output,j.size,fun x hx=>j.block x hx.2⟩;clear y j G E;go_wp2_with fail;go_ret;rw[z.out];exact⟨rfl,U.out,Q.out⟩
    ·have ag:M=true:=iW;clear Y;subst ag;go_wp2_with fail;refine(DM.out _).mono ?_;rintro e w3 ⟨rfl,rfl⟩;by_cases ac:Bz i s=n
     ·have aw:((Bz i s:Int) != (n:Int))=false:=(by rw[ac];simp);have aQ:=hid ac;clear ac;go_wp2_with fail;refine(DA.out _).mono ?_;rintro e w4 ⟨rfl,q,hq⟩;have aS:Hid (Cur w4 g base ls A c a2 0):=(by rw[hq];exact L.out.drewN q);have aP:Hid (Kept (AW g w) w w4):=(by rw[hq];exact N.out.drewN q);have z:Hid (R=(s,a2,0)):=(by have h:=HR.out;rw[Aa (fun h=>h.elim ah.out (fun h=>h.elim (by rw[<-HM.out];decide) (fun h=>h.2 aQ.out)))]at h;exact h);clear hq DM DA L N;generalize Bz i s=al at *;go_wp2_with fail;go_ret;rw[z.out];exact⟨rfl,aS.out,aP.out⟩
     ·have aw:((Bz i s:Int) != (n:Int))=true:=l7;have z:Hid (R=(s,a2,2)):=(by have h:=HR.out;rw[Ab (.inr (.inr ⟨trivial,ac⟩))]at h;exact h);clear ac;go_wp2_with fail;refine(DA.out _).mono ?_;rintro e w3 ⟨rfl,q,hq⟩;have G:Hid (Cur w3 g base ls A c a2 0):=(by rw[hq];exact L.out.drewN q);have E:Hid (Kept (AW g w) w w3):=(by rw[hq];exact N.out.drewN q);clear hq DM DA L N;generalize Bz i s=al at *;go_wp2_with fail;refine(Gc _ g base ls A c a2 0 2 G.out).mono ?_;rintro e w5 ⟨rfl,y,j⟩;rw[HF.out]at y;have U:=hid y;have Q:Hid (Kept (AW g w) w w5):=E.out.trans ⟨j.os,j.tape,j.output,j.size,fun x hx=>j.block x hx.2⟩;clear y j G E;go_wp2_with fail;go_ret;rw[z.out];exact⟨rfl,U.out,Q.out⟩
  ·have gE:(e2 != 0)=true:=nB;have z:Hid (R=([],a2,e2)):=(by have h:=HR.out;rw[Ab he]at h;exact h);clear he HR HT;go_wp2_with fail;go_ret;rw[z.out];exact⟨rfl,L.out,N.out⟩
end Idx
namespace Idx
open Go.RowKit Mem Own Canon Sift
open NumPut Recs Crc Block
open Nums
def Cp(ls:List Nat):Nat->Bool->Nat->List Str->List Str×Int
 |0,_,at_,acc=>(acc,Fb ls at_ 0)
 |k+1,first,at_,acc=>
  if(EV ls (acc.getLast?.getD []) first at_).2.2≠0 then([],(EV ls (acc.getLast?.getD []) first at_).2.2)
  else Cp ls k false (EV ls (acc.getLast?.getD []) first at_).2.1 (acc++ [(EV ls (acc.getLast?.getD []) first at_).1])
theorem XQ{a s:Str}(h:BH a s=true):s.length<=25:=by unfold BH at h;simp at h;exact h.2.1
theorem X9{i:Str}{first:Bool}(h:(EV ls i first at_).2.2=0):(EV ls i first at_).1.length<=25:=by
 unfold EV nxS at *;split at h
 ·rename_i he;exact absurd h he
 ·rename_i he;rw[Aa he];split at h
  ·cases h
  ·rename_i hn;rw[Aa hn]
   have hm:BH i (List.take (nxN ls i first at_) i++toS (Di 25 ls (nxA ls i first at_) (nxE ls i first at_)))=true:=by
    cases hb:BH i (List.take (nxN ls i first at_) i++toS (Di 25 ls (nxA ls i first at_) (nxE ls i first at_)))with
    |true=>rfl
    |false=>exact absurd (.inr (.inl hb)) hn
   exact XQ hm
structure DAt (w:World) (base gd size:Nat) (ts hs:List Str) (vT vH:Value):Prop where
 blk:Blk w gd 254 #[vT, .int .i64 (size:Nat),vH]
 ot:w.ownsRow base 9 1 vT ts.length (AD ts)
 oh:w.ownsRow base 9 1 vH hs.length (AD hs)
 apart:∀y,vT.ownBlock=some y->vH.ownBlock≠some y
 gb:base<=gd
section
variable {w w1 w3 w':World} {base gd size g:Nat} {ts hs:List Str} {vT vH v3:Value} {s:Str}
theorem DAt.keep(h:DAt w base gd size ts hs vT vH)(hk:∀y,base<=y->y<w.heap.size->w'.heap[y]? =w.heap[y]?):DAt w' base gd size ts hs vT vH:=
 ⟨(hk gd h.gb h.blk.lt).trans h.blk,dZ h.ot (fun y hy=>hk y (Ae h.ot y hy).1 (Ae h.ot y hy).2),dZ h.oh (fun y hy=>hk y (Ae h.oh y hy).1 (Ae h.oh y hy).2),h.apart,h.gb⟩
theorem DAt.oth(h:DAt w base gd size ts hs vT vH){cs:Array Value}(hc:Blk w g 243 cs)(hk:Kept (fun y=>y<w.heap.size/\y≠g) w w'):DAt w' base gd size ts hs vT vH:=
 ⟨(hk.block gd ⟨h.blk.lt,Blk.apart h.blk hc iX⟩).trans h.blk,dZ h.ot (fun y hy=>hk.block y ⟨(Ae h.ot y hy).2,fun e=>fZ h.ot hc iX (e ▸ hy)⟩),dZ h.oh (fun y hy=>hk.block y ⟨(Ae h.oh y hy).2,fun e=>fZ h.oh hc iX (e ▸ hy)⟩),h.apart,h.gb⟩
theorem DAt.texts(h:DAt w base gd size ts hs vT vH)(hb:aO w w1)(hg:w1.grownBy w3 vT.ownBlock)(i:w3.ownsRow base 9 1 v3 (ts.length+1) (AD ts++ [.string (bs s)]))(j:v3.ownBlock=vT.ownBlock∨v3.ownBlock=some w1.heap.size):
 DAt (w3.setCell ⟨gd,0,none⟩ v3) base gd size (ts++ [s]) hs v3 vH:=by
 have z:vT.ownBlock≠some gd:=fZ h.ot h.blk iX;have b3:=(h.blk.step hb).grown hg (Br z);have o1:w1.ownsRow base 9 1 vH hs.length (AD hs):=dZ h.oh (fun y hy=>hb.block y (Ae h.oh y hy).2);have o3:w3.ownsRow base 9 1 vH hs.length (AD hs):=dZ o1 (fun y hy=>hg.block y (Ae o1 y hy).2 (fun e=>h.apart y e.symm hy));have n3:v3.ownBlock≠some gd:=fZ i b3 iX;have nh:vH.ownBlock≠some gd:=fZ o3 b3 iX;refine⟨by simpa using b3.set 0 v3,?_,dZ o3 (fun y hy=>AJ _ _ _ y (fun e=>nh mp)),?_,h.gb⟩
 ·rw[Aj,JD];exact dZ i (fun y hy=>AJ _ _ _ y (fun e=>n3 mp))
 ·intro y hy hh;rcases j with e|e
  ·exact h.apart y (by rw[<-e];exact hy) hh
  ·rw[e]at hy;injection hy with hy;have:=(Ae h.oh y hh).2;have:=hb.size;omega
theorem DAt.heads(h:DAt w base gd size ts hs vT vH)(hb:aO w w1)(hg:w1.grownBy w3 vH.ownBlock)(i:w3.ownsRow base 9 1 v3 (hs.length+1) (AD hs++ [.string (bs s)]))(j:v3.ownBlock=vH.ownBlock∨v3.ownBlock=some w1.heap.size):
 DAt (w3.setCell ⟨gd,2,none⟩ v3) base gd size ts (hs++ [s]) vT v3:=by
 have z:vH.ownBlock≠some gd:=fZ h.oh h.blk iX;have b3:=(h.blk.step hb).grown hg (Br z);have o1:w1.ownsRow base 9 1 vT ts.length (AD ts):=dZ h.ot (fun y hy=>hb.block y (Ae h.ot y hy).2);have o3:w3.ownsRow base 9 1 vT ts.length (AD ts):=dZ o1 (fun y hy=>hg.block y (Ae o1 y hy).2 (fun e=>h.apart y hy e.symm));have n3:v3.ownBlock≠some gd:=fZ i b3 iX;have nh:vT.ownBlock≠some gd:=fZ o3 b3 iX;refine⟨by simpa using b3.set 2 v3,dZ o3 (fun y hy=>AJ _ _ _ y (fun e=>nh mp)),?_,?_,h.gb⟩
 ·rw[Aj,JD];exact dZ i (fun y hy=>AJ _ _ _ y (fun e=>n3 mp))
 ·intro y hy hh;rcases j with e|e
  ·exact h.apart y hy (by rw[<-e];exact hh)
  ·rw[e]at hh;injection hh with hh;have:=(Ae h.ot y hy).2;have:=hb.size;omega
theorem Pa{ob:Nat}{cs:Array Value}(h:Cur w g base j A c at_ er)(i:Blk w ob 254 cs)(k:Nat)(u:Value):Cur (w.setCell ⟨ob,k,none⟩ u) g base j A c at_ er:=
 ⟨h.blk.far (fun e=>Blk.apart i h.blk iX e.symm) _,sZ h.own (fZ h.own i iX) _,h.le,h.lo⟩
theorem cur_far{v:Value}(h:Cur w g base j A c at_ er)(ho:w.ownsRow i 9 1 v n xs)(hg:w.grownBy w' v.ownBlock):Cur w' g base j A c at_ er:=
 ⟨h.blk.grown hg (Br (fZ ho h.blk iX)),dZ h.own (fun y hy=>hg.block y (Ae h.own y hy).2 (fun e2=>by
  rcases Fh ho h.own iX with e3|e3
  ·rw[e3]at e2;cases e2
  ·exact e3 (by rw[<-e2,hy]))),h.le,h.lo⟩
end
theorem RX:(prog.info? 9).map (fun i=>(i.zero,i.size,i.bytes))=some (some (.string ⟨#[]⟩),1,16):=kG
def G0(w:World)(gd:Nat)(vT vH:Value)(y:Nat):Prop:=y<w.heap.size/\y≠gd/\vT.ownBlock≠some y/\vH.ownBlock≠some y
structure FI (w wr:World) (g:Nat) (B:Option Addr) (d:Nat) (ls:List Nat) (base gd size:Nat) (vT vH:Value) (at_:Nat) (t2 h2:List Str) (uT uH:Value):Prop where
 cur:Cur wr g w ls B d at_ 0
 dat:DAt wr base gd size t2 h2 uT uH
 kept:Kept (G0 w gd vT vH) w wr
 lt:∀y,y<w.heap.size->uT.ownBlock=some y->vT.ownBlock=some y
 lh:∀y,y<w.heap.size->uH.ownBlock=some y->vH.ownBlock=some y
section
variable {w wr w5:World} {g d base gd size at_:Nat} {B:Option Addr} {ls:List Nat} {vT vH uT uH v5:Value} {t2 h2:List Str} {s:Str} {o:Obj}
theorem FI.next{w2:World}{a2:Nat}(h:FI w wr g B d ls base gd size vT vH at_ t2 h2 uT uH)(hg:w.heap.size<=g)(j:Cur w2 g w ls B d a2 0)(i:Kept (AW g wr) wr w2):FI w w2 g B d ls base gd size vT vH a2 t2 h2 uT uH:=
 have hz:=h.kept.size
 ⟨j,h.dat.oth h.cur.blk i,h.kept.trans ⟨i.os,i.tape,i.output,i.size,fun y hy=>i.block y ⟨ku,fun e=>ku⟩⟩,h.lt,h.lh⟩
theorem FI.texts(h:FI w wr g B d ls base gd size vT vH at_ t2 h2 uT uH)(hg:(wr.alloc o).grownBy w5 uT.ownBlock)(i:w5.ownsRow base 9 1 v5 (t2.length+1) (AD t2++ [.string (bs s)]))(j:v5.ownBlock=uT.ownBlock∨v5.ownBlock=some (wr.alloc o).heap.size):
 FI w (w5.setCell ⟨gd,0,none⟩ v5) g B d ls base gd size vT vH at_ (t2++ [s]) h2 v5 uH:=by
 have hz:=h.kept.size;have hb:aO wr (wr.alloc o):=bZ (Ag _ _);have hD:=h.dat.texts hb hg i j;have b5:Blk w5 gd 254 #[uT, .int .i64 (size:Nat),uH]:=(h.dat.blk.step hb).grown hg (Br (fZ h.dat.ot h.dat.blk iX));refine⟨Pa (cur_far (h.cur.step hb) (h.dat.ot.alloc o) hg) b5 0 _,hD,?_,?_,h.lh⟩
 ·exact((h.kept.alloc (fun y hy=>by have:=hy.1;omega) o).grown hg (fun y hy=>by have:=hy.1;simp;omega) (fun y hy hk=>hk.2.2.1 (h.lt y hk.1 hy))).set (fun hk=>hk.2.1 rfl) _
 ·intro y hy he;rcases j with e|e
  ·exact h.lt y hy (by rw[<-e];exact he)
  ·rw[e]at he;injection he with he;simp at he;omega
theorem FI.heads(h:FI w wr g B d ls base gd size vT vH at_ t2 h2 uT uH)(hg:(wr.alloc o).grownBy w5 uH.ownBlock)(i:w5.ownsRow base 9 1 v5 (h2.length+1) (AD h2++ [.string (bs s)]))(j:v5.ownBlock=uH.ownBlock∨v5.ownBlock=some (wr.alloc o).heap.size):
 FI w (w5.setCell ⟨gd,2,none⟩ v5) g B d ls base gd size vT vH at_ t2 (h2++ [s]) uT v5:=by
 have hz:=h.kept.size;have hb:aO wr (wr.alloc o):=bZ (Ag _ _);have hD:=h.dat.heads hb hg i j;have b5:Blk w5 gd 254 #[uT, .int .i64 (size:Nat),uH]:=(h.dat.blk.step hb).grown hg (Br (fZ h.dat.oh h.dat.blk iX));refine⟨Pa (cur_far (h.cur.step hb) (h.dat.oh.alloc o) hg) b5 2 _,hD,?_,h.lt,?_⟩
 ·exact((h.kept.alloc (fun y hy=>by have:=hy.1;omega) o).grown hg (fun y hy=>by have:=hy.1;simp;omega) (fun y hy hk=>hk.2.2.2 (h.lh y hk.1 hy))).set (fun hk=>hk.2.1 rfl) _
 ·intro y hy he;rcases j with e|e
  ·exact h.lh y hy (by rw[<-e];exact he)
  ·rw[e]at he;injection he with he;simp at he;omega
end
def XS(w:World)(base gd size:Nat)(vT vH:Value)(F:List Str×Int)(e:Ending)(w':World):Prop:=
 e= .returned (.int .i64 F.2)/\Kept (G0 w gd vT vH) w w'/\(F.2=0->(∀s∈F.1,s.length<=25)/\∃hs' vT' vH',DAt w' base gd size F.1 hs' vT' vH'/\(∀y,y<w.heap.size->vT'.ownBlock=some y->vT.ownBlock=some y)/\(∀y,y<w.heap.size->vH'.ownBlock=some y->vH.ownBlock=some y)/\hs'.length<=F.1.length)
theorem OY(w:World)(A:Option Addr)(m c n base gd size:Nat)(ls:List Nat)(ts hs:List Str)(vT vH:Value)(hm:ls.length=m)(ba:m<=100000)(h8:∀x∈ls,x<=255)(aX:A=none->m=0/\c=0)(ha:Row w w A m 1 (jZ .u8 ls))(hn:n<=64)(hD:DAt w base gd size ts hs vT vH)(a9:∀s∈ts,s.length<=25)(bJ:ts.length<=1100000)(bm:hs.length<=ts.length):
 Calls prog 196 #[.pointer (some ⟨gd,0,none⟩), .slice A m c, .int .i64 (n:Nat)] w (XS w base gd size vT vH (Cp ls n true 0 ts)):=by
 obtain⟨j0,ar,aw,aq,au⟩:=info_parts RX;have D0:=hid (new_any w A m c ls hm ba aX ha);have aV:ls.length<=100000:=kR
 have H8:=hid h8;have bA:=hid aV;obtain⟨F,hF⟩:=iS (Cp ls n true 0 ts);rw[<-hF];have bc:Hid (Cp ls (n-0) (decide (0=0)) 0 ts=F):=hF.symm;have HD:=hid hD;have bq:=hid a9;have bC:=hD.blk.lt;clear hm aX ha h8 ba aV hF hD a9;go_enter func196,ntmps196;go_wp2_with fail;refine D0.out.mono ?_;rintro e w1 ⟨g,B,d,rfl,aT,aP⟩;have z1:=aP.size;have aU:=aT.lo;have bE:=aT.blk.lt;have a6:=hid aT;have a8:Hid (DAt w1 base gd size ts hs vT vH):=HD.out.keep (fun y _ hy=>aP.block y hy);have a7:Hid (Kept (G0 w gd vT vH) w w1):=Kept.of_below aP (fun y hy=>hy.1);clear aT aP D0 HD;go_wp2_with fail;go_loopw [15] (fun iv wr=>∃ (i at_:Nat) (t2 h2:List Str) (uT uH:Value),i<=n/\iv= .int .i64 i/\t2.length<=1100000+i/\h2.length<=t2.length/\Hid (FI w wr g B d ls base gd size vT vH at_ t2 h2 uT uH)/\Hid (∀s∈t2,s.length<=25)/\Hid (Cp ls (n-i) (decide (i=0)) at_ t2=F)) (fun iv _=>n-(intOf iv).toNat)
 case atStart=>exact⟨0,0,ts,hs,vT,vH,kR,rfl,kR,bm,⟨a6.out,a8.out,a7.out,fun _ _ h=>h,fun _ _ h=>h⟩,bq.out,bc.out⟩
 case round=>
  obtain⟨i,at_,t2,h2,uT,uH,hi,rfl,bt,aS,HI,av,HG⟩:=hrel;have zr:=HI.out.kept.size;clear a6 a8 a7 bc;by_cases bI:i<n
  ·have gi:=iQ ((i:Int)<n);have bG:=iQ (i<n);have hG:=HG.out;rw[show n-i=(n-(i+1))+1 by omega,Cp]at hG;obtain⟨fb,aQ⟩:∃fb,fb=decide (i=0):=⟨_,rfl⟩
   have gz:((i:Int)==0)=fb:=by
    rw[aQ];by_cases h:i=0
    ·subst h;rfl
    ·rw[Az h,Df];omega
   obtain⟨ab,am⟩:=iS (t2.getLast?.getD [])
   have bf:ab.length<=25:=by
    rw[am];cases hl:t2.getLast? with
    |none=>exact Ba _
    |some y=>exact av.out y (List.mem_of_getLast? hl)
   rw[<-aQ,<-am]at hG;have DN:=hid (fun wx hx=>Yr wx g w ls B d at_ ab fb bA.out H8.out bf hx);have aj:Hid ((EV ls ab fb at_).2.2=0->(EV ls ab fb at_).1.length<=25):=X9;generalize EV ls ab fb at_=S at *;obtain⟨s,a2,e2⟩:=S;simp only at hG DN aj;have aa:=hid hG;have bH:=hid aQ;have aW:=hid am;have c0:=HI.out.dat.blk.iO 0;have an:=HI.out.dat.ot;obtain⟨p,hp⟩:=iS t2.length;rw[<-hp]at an bt aS;obtain⟨Au,cu,rfl⟩:=aZ an;have HP:=hid hp;have aR:=hid an;have bB:=HI.out.dat.blk.lt;have bF:base<=wr.heap.size:=(by have:=HI.out.dat.gb;omega);clear hG HG aQ am hp an bf;by_cases a0:p=0
   ·have gp:=iR ((0:Int)<p);have be:=iR (0<p);have bp:ab= []:=(by rw[aW.out,FK (HP.out.symm.trans a0)];rfl);subst bp;have bg:Hid (∀wx,Cur wx g w ls B d at_ 0->Calls prog 245 #[.pointer (some ⟨g,0,none⟩), .string ⟨#[]⟩,fb] wx fun e w'=>e= .returned (.string (bs s))/\Cur w' g w ls B d a2 e2/\Kept (AW g wx) wx w'):=DN.out;clear DN a0;go_wp2_with fail;refine(bg.out _ HI.out.cur).mono ?_;rintro e w2 ⟨rfl,ai,z⟩;clear bg;have aY:=HI.out.cur.blk;have z2:=z.size;have al:=hid (fun he:e2=0=>HI.out.next aU (he ▸ ai) z);have a4:Hid (Kept (G0 w gd vT vH) w w2):=HI.out.kept.trans ⟨z.os,z.tape,z.output,z.size,fun y hy=>z.block y ⟨ku,fun e=>ku⟩⟩;have DE:=hid (CJ w2 g w ls B d a2 e2 ai);clear ai z HI c0 aY aR;go_wp2_with fail;refine DE.out.mono ?_;rintro e w3 ⟨rfl,rfl⟩;by_cases he:e2=0
    ·subst he;have J:=al.out rfl;have ac:=hid J;have hG:=aa.out;rw[Aa (show ¬((0:Int)≠0) from fun h=>h rfl)]at hG;have ay:=hid hG;have af:=hid (aj.out rfl);have k0:=J.dat.blk.iO 0;have Z:=J.dat.ot;rw[<-HP.out]at Z;have N:=hid Z;have bd:base<=w3.heap.size:=kR;have kf:=J.dat.blk.frozen 0;have kb:=J.dat.blk;have ax:=Br (fZ J.dat.ot J.dat.blk iX:_≠some gd);have ak:=hid kb;have U:=hid ax;clear J hG aa aj al DE Z kf kb ax;cases fb with
     |false=>
      go_wp2_with(at_builtin;refine gZ rfl (.tmp 54) (.tmp 56) 50 rfl base 9 j0 _ 1 16 underlying50 ar aw aq au rfl iX _ _ _ kU (N.out.alloc _) _ 1 1 [.string (bs s)] kU (Src.of_blk (Blk.made_at _ _ _ mY) 1 1 1 rfl) kw nI kR ni ?_;intro v5 w5 j L G;obtain⟨A5,c5,rfl⟩:=aZ j;have b5:=(ak.out.alloc (.cells #[.string (bs s)] 9)).grown L U.out;have q0:=b5.iO 0;have q1:=b5.frozen 0);have E:=hid (ac.out.texts (s:=s) L kX G);clear j L G b5 q0 q1 ac N ak U k0;go_roundw
      case measure=>exact jw
      case rel=>exact jd
     |true=>
      have ah:=ac.out.dat.oh;obtain⟨q,hq⟩:=iS h2.length;rw[<-hq]at ah aS;obtain⟨Ah,ch,rfl⟩:=aZ ah;have HQ:=hid hq;clear ah hq;go_wp2_with(first|(at_builtin;refine gZ rfl (.tmp 54) (.tmp 56) 50 rfl base 9 j0 _ 1 16 underlying50 ar aw aq au rfl iX _ _ _ kU (N.out.alloc _) _ 1 1 [.string (bs s)] kU (Src.of_blk (Blk.made_at _ _ _ mY) 1 1 1 rfl) kw nI kR ni ?_;intro v5 w5 j L G;obtain⟨A5,c5,rfl⟩:=aZ j;have b5:=(ak.out.alloc (.cells #[.string (bs s)] 9)).grown L U.out;have q0:=b5.iO 0;have q1:=b5.frozen 0;have E:=hid (ac.out.texts (s:=s) L kX G);have r0:=E.out.dat.blk.iO 2;have r1:=E.out.dat.blk.frozen 2;have bn:base<=w5.heap.size:=(by have h1:=E.out.dat.gb;have h2:=b5.lt;omega);have Y:=E.out.dat.oh;rw[<-HQ.out]at Y;have az:=hid Y;clear Y j L G)|(at_builtin;refine gZ rfl (.tmp 67) (.tmp 69) 50 rfl base 9 j0 _ 1 16 underlying50 ar aw aq au rfl iX _ _ _ kU (az.out.alloc _) _ 1 1 [.string (bs s)] kU (Src.of_blk (Blk.made_at _ _ _ mY) 1 1 1 rfl) kw nI kR ni ?_;intro v7 w7 M ag ae;obtain⟨A7,c7,rfl⟩:=aZ M;have b7:=(E.out.dat.blk.alloc (.cells #[.string (bs s)] 9)).grown ag (Br (fZ E.out.dat.oh E.out.dat.blk iX));have s0:=b7.iO 2;have s1:=b7.frozen 2;have a3:=hid (E.out.heads (s:=s) ag (by rw[<-HQ.out];exact M) ae);clear M ag ae));go_roundw
      case measure=>exact jw
      case rel=>exact jc
    ·have gE:(e2 != 0)=true:=nB;have a1:Hid (F=([],e2)):=(by have h:=aa.out;rw[Ab he]at h;exact h.symm);have U:=hid he;clear he aa aj al DE;go_wp2_with fail;go_ret;rw[a1.out];exact⟨rfl,a4.out,fun h=>absurd h U.out⟩
   ·obtain⟨gq,cq,bu,bD,_⟩:=aR.out.form kR;injection bu with q1 q2 q3;subst q1 q3;clear q2;have a5:t2[p-1]? =some ab:=(by have h:=aW.out;rw[List.getLast?_eq_getElem?,<-HP.out,AE ki]at h;rw[AE ki,h];rfl);have cy:wr.cell? ⟨gq,p-1,none⟩=some (.string (bs ab)):=(by rw[aR.out.cellAt (p-1) kR];exact GM a5);obtain⟨p1,bb⟩:=iS (p-1);rw[<-bb]at cy;have sp:IntKind.i64.wrap ((p:Int)-1)=(p1:Int):=lD;have gp:=iQ ((0:Int)<p);have be:=iQ (0<p);have bk:(0:Int)<=(p1:Int):=kR;have bj:(p1:Int)<(p:Int):=kR;clear a5 bb a0;go_wp2_with fail;go_quiet (fail);go_wp2_with fail;refine(DN.out _ (HI.out.cur.drewN _)).mono ?_;rintro e w2 ⟨rfl,ai,z⟩;clear DN;have z:Kept (AW g wr) wr w2:=⟨z.os,z.tape,z.output,z.size,z.block⟩;have aY:=HI.out.cur.blk;clear cy sp gp be bk bj;have z2:=z.size;have al:=hid (fun he:e2=0=>HI.out.next aU (he ▸ ai) z);have a4:Hid (Kept (G0 w gd vT vH) w w2):=HI.out.kept.trans ⟨z.os,z.tape,z.output,z.size,fun y hy=>z.block y ⟨ku,fun e=>ku⟩⟩;have DE:=hid (CJ w2 g w ls B d a2 e2 ai);clear ai z HI c0 aY aR;go_wp2_with fail;refine DE.out.mono ?_;rintro e w3 ⟨rfl,rfl⟩;by_cases he:e2=0
    ·subst he;have J:=al.out rfl;have ac:=hid J;have hG:=aa.out;rw[Aa (show ¬((0:Int)≠0) from fun h=>h rfl)]at hG;have ay:=hid hG;have af:=hid (aj.out rfl);have k0:=J.dat.blk.iO 0;have Z:=J.dat.ot;rw[<-HP.out]at Z;have N:=hid Z;have bd:base<=w3.heap.size:=kR;have kf:=J.dat.blk.frozen 0;have kb:=J.dat.blk;have ax:=Br (fZ J.dat.ot J.dat.blk iX:_≠some gd);have ak:=hid kb;have U:=hid ax;clear J hG aa aj al DE Z kf kb ax;cases fb with
     |false=>
      go_wp2_with(at_builtin;refine gZ rfl (.tmp 54) (.tmp 56) 50 rfl base 9 j0 _ 1 16 underlying50 ar aw aq au rfl iX _ _ _ kU (N.out.alloc _) _ 1 1 [.string (bs s)] kU (Src.of_blk (Blk.made_at _ _ _ mY) 1 1 1 rfl) kw nI kR ni ?_;intro v5 w5 j L G;obtain⟨A5,c5,rfl⟩:=aZ j;have b5:=(ak.out.alloc (.cells #[.string (bs s)] 9)).grown L U.out;have q0:=b5.iO 0;have q1:=b5.frozen 0);have E:=hid (ac.out.texts (s:=s) L kX G);clear j L G b5 q0 q1 ac N ak U k0;go_roundw
      case measure=>exact jw
      case rel=>exact jd
     |true=>
      have ah:=ac.out.dat.oh;obtain⟨q,hq⟩:=iS h2.length;rw[<-hq]at ah aS;obtain⟨Ah,ch,rfl⟩:=aZ ah;have HQ:=hid hq;clear ah hq;go_wp2_with(first|(at_builtin;refine gZ rfl (.tmp 54) (.tmp 56) 50 rfl base 9 j0 _ 1 16 underlying50 ar aw aq au rfl iX _ _ _ kU (N.out.alloc _) _ 1 1 [.string (bs s)] kU (Src.of_blk (Blk.made_at _ _ _ mY) 1 1 1 rfl) kw nI kR ni ?_;intro v5 w5 j L G;obtain⟨A5,c5,rfl⟩:=aZ j;have b5:=(ak.out.alloc (.cells #[.string (bs s)] 9)).grown L U.out;have q0:=b5.iO 0;have q1:=b5.frozen 0;have E:=hid (ac.out.texts (s:=s) L kX G);have r0:=E.out.dat.blk.iO 2;have r1:=E.out.dat.blk.frozen 2;have bn:base<=w5.heap.size:=(by have h1:=E.out.dat.gb;have h2:=b5.lt;omega);have Y:=E.out.dat.oh;rw[<-HQ.out]at Y;have az:=hid Y;clear Y j L G)|(at_builtin;refine gZ rfl (.tmp 67) (.tmp 69) 50 rfl base 9 j0 _ 1 16 underlying50 ar aw aq au rfl iX _ _ _ kU (az.out.alloc _) _ 1 1 [.string (bs s)] kU (Src.of_blk (Blk.made_at _ _ _ mY) 1 1 1 rfl) kw nI kR ni ?_;intro v7 w7 M ag ae;obtain⟨A7,c7,rfl⟩:=aZ M;have b7:=(E.out.dat.blk.alloc (.cells #[.string (bs s)] 9)).grown ag (Br (fZ E.out.dat.oh E.out.dat.blk iX));have s0:=b7.iO 2;have s1:=b7.frozen 2;have a3:=hid (E.out.heads (s:=s) ag (by rw[<-HQ.out];exact M) ae);clear M ag ae));go_roundw
      case measure=>exact jw
      case rel=>exact jc
    ·have gE:(e2 != 0)=true:=nB;have a1:Hid (F=([],e2)):=(by have h:=aa.out;rw[Ab he]at h;exact h.symm);have U:=hid he;clear he aa aj al DE;go_wp2_with fail;go_ret;rw[a1.out];exact⟨rfl,a4.out,fun h=>absurd h U.out⟩
  ·obtain rfl:i=n:=by omega
   have hG:=HG.out;rw[Fj,Cp]at hG;have gi:=iR ((i:Int)<i);have DE:=hid (Sk wr g w ls B d at_ 0 HI.out.cur);have aa:=hid hG;clear hG HG;generalize Fb ls at_ 0=ee at *;go_wp2_with fail;refine DE.out.mono ?_;rintro e w5 ⟨rfl,bh,Q⟩;have bl:Hid (Kept (G0 w gd vT vH) w w5):=HI.out.kept.trans ⟨Q.os,Q.tape,Q.output,Q.size,fun y hy=>Q.block y (fun e=>by have:=hy.1;omega)⟩;have bi:Hid (DAt w5 base gd size t2 h2 uT uH):=HI.out.dat.oth HI.out.cur.blk ⟨Q.os,Q.tape,Q.output,Q.size,fun y hy=>Q.block y hy.2⟩;clear bh Q;go_wp2_with fail;go_ret;rw[<-aa.out];exact⟨rfl,bl.out,fun _=>⟨av.out,h2,uT,uH,bi.out,HI.out.lt,HI.out.lh,aS⟩⟩
end Idx
namespace Idx
open Go.RowKit Mem Own Canon Sift
open NumPut Recs Crc Block
open Nums
def szR(n size:Nat)(ls:List Nat):Nat->Nat->Nat->List Nat->List Nat×Nat×Int
 |0,at_,_,acc=>(acc,at_,0)
 |f+1,at_,x,acc=>if n<=x then(acc,at_,0)else if oZ 2000 ls at_ 0≠0 then([],nZ 2000 ls at_ 0,oZ 2000 ls at_ 0)else szR n size ls f (nZ 2000 ls at_ 0) (x+size) (acc++ [zZ 2000 ls at_ 0])
theorem Ra{size:Nat}{f:Nat}{i:List Nat}(h:n<=x):szR n size ls f at_ x i=(i,at_,0):=by
 cases f with
 |zero=>rfl
 |succ f=>exact Ab h
def bkR(size:Nat)(ls:List Nat):List Nat->Nat->Nat->List Str->List Str×Nat×Int
 | [],_,at_,acc=>(acc,at_,0)
 |k :: ks,r,at_,acc=>if Bh ls at_ 0 k≠0 then([],0,Bh ls at_ 0 k)
  else if(Cp (AZ ls at_ 0 k) (min size r) true 0 acc).2≠0 then([],0,(Cp (AZ ls at_ 0 k) (min size r) true 0 acc).2)
  else bkR size ls ks (r-size) (takeA ls at_ 0 k) (Cp (AZ ls at_ 0 k) (min size r) true 0 acc).1
def FO(size:Nat)(ls:List Nat):List Nat×Nat×Int:=
 if oZ 1048576 ls 0 0≠0 then([],nZ 1048576 ls 0 0,oZ 1048576 ls 0 0)else szR (zZ 1048576 ls 0 0) size ls (zZ 1048576 ls 0 0) (nZ 1048576 ls 0 0) 0 []
def Ee(size:Nat)(ls:List Nat):List Str×Nat×Int:=
 if(FO size ls).2.2≠0 then([],0,(FO size ls).2.2)else bkR size ls (FO size ls).1 (zZ 1048576 ls 0 0) (FO size ls).2.1 []
def OL(w:World)(R:List Str×Nat×Int)(e:Ending)(w':World):Prop:=
 aO w w'/\(R.2.2≠0->e= .returned (.tuple #[.pointer none,iT,R.2.2]))/\(R.2.2=0->∃gd size hs vT vH,e= .returned (.tuple #[.pointer (some ⟨gd,0,none⟩), .int .i64 (R.2.1:Nat),iT])/\DAt w' w gd size R.1 hs vT vH)
theorem Jw{R:List Str×Nat×Int}(hR:R=([],0,er))(he:er≠0)(hb:aO w w'):OL w R (.returned (.tuple #[.pointer none,iT,er])) w':=nF
theorem WR{row:Option Nat}{i:List Nat}(h:Cur w g base i A c at_ er)(hg:w.grownBy w' row)(B:Nat)(y:g<B)(j:∀x,(Value.slice A i.length c).ownBlock=some x->x<B)(hr:∀x,row=some x->B<=x):Cur w' g base i A c at_ er:=
 ⟨h.blk.grown hg (fun e=>by have:=hr g e.symm;omega),dZ h.own (fun x hx=>hg.block x (Ae h.own x hx).2 (fun e=>by have:=j x hx;have:=hr x e.symm;omega)),h.le,h.lo⟩
theorem QZ{size:Nat}{ts hs:List Str}(hD:DAt w base gd size ts hs uT uH)(hy:y<w.heap.size)(hb:y<base):G0 w gd uT uH y:=
 ⟨hy,by have:=hD.gb;omega,fun e=>by have:=(Ae hD.ot y e).1;omega,fun e=>by have:=(Ae hD.oh y e).1;omega⟩
theorem Nu{size:Nat}{ts hs:List Str}{v:Value}(hD:DAt w base gd size ts hs uT uH)(h:w.ownsRow b2 e 1 v n xs)(he:9≠e)(hd:e≠254)(hy:v.ownBlock=some y):G0 w gd uT uH y:=
 ⟨(Ae h y hy).2,fun e2=>fZ h hD.blk hd (e2 ▸ hy),fun e2=>by
   rcases Fh hD.ot h he with e3|e3
   ·rw[e3]at e2;cases e2
   ·exact e3 (by rw[e2,hy]),fun e2=>by
   rcases Fh hD.oh h he with e3|e3
   ·rw[e3]at e2;cases e2
   ·exact e3 (by rw[e2,hy])⟩
theorem Oz{size:Nat}{ts hs:List Str}(h:Cur w g b2 ls A c at_ er)(hD:DAt w base gd size ts hs uT uH)(hk:Kept (G0 w gd uT uH) w w'):Cur w' g b2 ls A c at_ er:=
 ⟨(hk.block g ⟨h.blk.lt,fun e=>Blk.apart hD.blk h.blk iX e.symm,fZ hD.ot h.blk iX,fZ hD.oh h.blk iX⟩).trans h.blk,dZ h.own (fun y hy=>hk.block y (Nu hD h.own iX iX hy)),h.le,h.lo⟩
theorem Lb(ls:List Nat):∀ (k:Nat) (first:Bool) (at_:Nat) (i:List Str),(Cp ls k first at_ i).2=0->(Cp ls k first at_ i).1.length=i.length+k
 |0,_,_,_,_=>rfl
 |k+1,first,at_,i,h=>by
  unfold Cp at h ⊢;split at h
  ·rename_i he;exact absurd h he
  ·rename_i he;rw[Aa he];rw[Lb ls k false _ _ h,Aj];simp;omega
theorem RI:(prog.info? 3).map (fun i=>(i.zero,i.size,i.bytes))=some (some (.int .i64 0),1,8):=kG
theorem T3(w:World)(A:Option Addr)(m c size:Nat)(ls:List Nat)(hm:ls.length=m)(bJ:m<=100000)(h8:∀x∈ls,x<=255)(a8:A=none->m=0/\c=0)(ha:Row w w A m 1 (jZ .u8 ls))(cd:1<=size)(ch:size<=64):
 Calls prog 118 #[.int .i64 (size:Nat), .slice A m c] w (OL w (Ee size ls)):=by
 obtain⟨j0,bX,b8,bU,b0⟩:=info_parts RI;have D0:=hid (new_any w A m c ls hm bJ a8 ha);have aP:ls.length<=100000:=kR
 have bB:=hid aP;have H8:=hid h8;have D1:=hid (fun wx g B d h=>GJ wx g w ls B d 0 0 1048576 aP h8 kR h);have ci:=iR ((size:Int)<1)
 have ca:=iR (size<1)
 have ce:=iR ((64:Int)<size)
 have cc:=iR (64<size)
 obtain⟨R,hR⟩:=iS (Ee size ls);rw[<-hR];unfold Ee at hR;obtain⟨Z,hZ⟩:=iS (FO size ls);rw[<-hZ]at hR;unfold FO at hZ;have co:zZ 1048576 ls 0 0<=1048576:=CI h8 0 0;have bK:oZ 1048576 ls 0 0≠0->zZ 1048576 ls 0 0=0:=by intro h;unfold oZ at h;rw[Aa mY]at h;unfold zZ;rw[Aa mY];exact((FC 1048576 (ls.drop 0) fun x hx=>h8 x (Be hx)).2.2.2.1 h).1
 generalize zZ 1048576 ls 0 0=n at *;generalize nZ 1048576 ls 0 0=a0 at *;generalize oZ 1048576 ls 0 0=e0 at *;have be:Hid ((e0=0->∃f,n<=f+0/\szR n size ls f a0 0 []=Z)/\(e0≠0->Z=([],a0,e0))):=⟨fun h=>⟨n,kR,by rw[hZ,Aa nm]⟩,fun h=>by rw[hZ,Ab h]⟩;have HR:=hid hR;have bN:=hid bK;clear hm h8 a8 ha hR hZ bK bJ aP;go_enter func118,ntmps118;go_wp2_with fail;refine D0.out.mono ?_;rintro e w1 ⟨g,B,d,rfl,a6,bg⟩;have DI:=hid (D1.out w1 g B d a6);have bD:=hid bg;have b9:=a6.lo;have cf:=a6.blk.lt;have cj:=bg.size;have bR:Hid (∀y,(Value.slice B ls.length d).ownBlock=some y->y<w1.heap.size):=fun y hy=>(Ae a6.own y hy).2;clear a6 bg D0 D1;go_wp2_with fail;refine DI.out.mono ?_;rintro e w2 ⟨rfl,bG,ay⟩;have bH:Hid (aO w w2):=bD.out.trans (ay.below fun b h=>⟨kR,kR⟩);have z2:=ay.size;have bF:=hid bG;clear bG ay bD DI;go_wp2_with fail;go_loopw [9,10] (fun v xv wr=>∃ (x at_ q:Nat) (er:Int) (G:List Nat),x<=n+64/\q<=x/\xv= .int .i64 x/\Hid (G.length=q)/\Hid (q*size=x)/\Hid (0<q->x<n+size)/\Hid (∀y∈G,y<=2000)/\Hid (Cur wr g w ls B d at_ er)/\Hid (wr.ownsRow w2 3 1 v q (cZ .i64 G))/\Hid (Kept (fun y=>y<w2.heap.size/\y≠g) w2 wr)/\Hid (er=0->∃f,n<=f+x/\szR n size ls f at_ x G=Z)/\Hid (er≠0->Z.2.2=er/\(n=0∨0<q))) (fun _ xv _=>n+64-(intOf xv).toNat)
 case atStart=>exact⟨0,a0,0,e0,[],kR,kR,rfl,rfl,mM,fun h=>kR,fun y hy=>by simp at hy,bF.out,Aq _ _ _ _,Kept.refl _ _,be.out.1,fun h=>⟨by rw[be.out.2 h], .inl (bN.out h)⟩⟩
 case round=>
  obtain⟨x,at_,q,er,G,hx,cl,rfl,HQ,a7,bd,HA,HC,HO,HK,HT,HE⟩:=hrel;have zk:=HK.out.size;obtain⟨va,vc,rfl⟩:=aZ HO.out;clear be bF;by_cases cg:x<n
  ·have g1:=iQ ((x:Int)<n);have bY:=iQ (x<n);have DE:=hid (CJ wr g w ls B d at_ er HC.out);by_cases he:er=0
   ·subst he;obtain⟨f,hf,hT⟩:=HT.out rfl;obtain⟨f,rfl⟩:∃f',f=f'+1:=⟨f-1,kR⟩;rw[szR,Aa kR]at hT;have D:=hid (fun wx hx=>GJ wx g w ls B d at_ 0 2000 bB.out H8.out kR hx);have ay:zZ 2000 ls at_ 0<=2000:=CI H8.out _ _;generalize zZ 2000 ls at_ 0=k at *;generalize nZ 2000 ls at_ 0=a2 at *;generalize oZ 2000 ls at_ 0=e2 at *;have sx:IntKind.i64.wrap ((x:Int)+(size:Int))=((x+size:Nat):Int):=lD;have N:Hid ((e2=0->∃f',n<=f'+(x+size)/\szR n size ls f' a2 (x+size) (G++ [k])=Z)/\(e2≠0->Z.2.2=e2/\(n=0∨0<q+1))):=⟨fun h=>⟨f,kR,by rw[Aa nm]at hT;exact hT⟩,fun h=>by rw[Ab h]at hT;rw[<-hT];exact⟨rfl, .inr kR⟩⟩
    have b4:Hid (∀y∈G++ [k],y<=2000):=fun y hy=>by
     rcases BN.1 hy with h|h
     ·exact HA.out y h
     ·rw[Dw]at h;omega
    have bM:Hid ((q+1)*size=x+size):=(by show _=_;rw[FJ,a7.out]);clear hT HT HE hf HA a7 bd;go_wp2_with fail;refine DE.out.mono ?_;rintro e w3 ⟨rfl,rfl⟩;go_wp2_with fail;refine(D.out _ HC.out).mono ?_;rintro e w4 ⟨rfl,af,J⟩;have z4:=J.size;have ai:=hid af;have U:Hid (w4.ownsRow w2 3 1 (.slice va q vc) q (cZ .i64 G)):=dZ HO.out (fun y hy=>J.block y ⟨(Ae HO.out y hy).2,jV⟩);have bl:Hid (Kept (fun y=>y<w2.heap.size/\y≠g) w2 w4):=HK.out.trans ⟨J.os,J.tape,J.output,J.size,fun y hy=>J.block y ⟨ku,hy.2⟩⟩;clear af J HC HO HK DE D;go_wp2_with(at_builtin;refine gZ rfl (.tmp 39) (.tmp 42) 37 rfl w2 3 j0 _ 1 8 underlying37 bX b8 bU b0 rfl iX _ _ _ kU (U.out.alloc _) _ 1 1 [.int .i64 (k:Nat)] kU (Src.of_blk (Blk.made_at _ _ _ mY) 1 1 1 rfl) kw nI kR ni ?_;intro v5 w5 aq bu bI;obtain⟨A5,c5,rfl⟩:=aZ aq);have bn:=fun(y:Nat) hy=>(Ae U.out y hy).1;have cm:=bl.out.size;have bE:=WR (ai.out.step (bZ (o:= .cells #[.int .i64 (k:Nat)] 3) (Ag w4 w4))) bu w2 kR (fun y hy=>by have:=bR.out y hy;omega) bn;have b1:=hid bE;have bW:Hid (Kept (fun y=>y<w2.heap.size/\y≠g) w2 w5):=(bl.out.alloc (fun y hy=>by have:=hy.1;omega) _).grown bu (fun y hy=>by have:=hy.1;simp;omega) (fun y hy hh=>by have:=bn y hy;have:=hh.1;omega);have b6:Hid (w5.ownsRow w2 3 1 (.slice A5 (q+1) c5) (q+1) (cZ .i64 (G++ [k]))):=(by show World.ownsRow _ _ _ _ _ _ _;rw[show cZ .i64 (G++ [k])=cZ .i64 G++ [.int .i64 (k:Nat)] by simp[cZ]];exact aq);clear aq bu bI bn bE ai U bl;go_roundw
    case measure=>exact jw
    case rel=>go_light;exact⟨x+size,a2,q+1,e2,G++ [k],kR,kR,i5,by show _=_;rw[Aj,HQ.out];rfl,bM.out,fun _=>kR,b4.out,b1.out,b6.out,bW.out,N.out.1,N.out.2⟩
   ·have gE:(er==0)=false:=nB;have av:Hid ((er=0->Z=(G,at_,0))/\(er≠0->Z.2.2=er)):=⟨fun h=>absurd h he,fun h=>(HE.out h).1⟩;clear he HT HE;go_wp2_with fail;refine DE.out.mono ?_;rintro e w3 ⟨rfl,rfl⟩;clear DE;go_wp2_with fail;have ar:Hid ((er=0->R=bkR size ls (G.drop 0) (n-0) at_ [])/\(er≠0->R=([],0,er))):=⟨fun h=>jQ,fun h=>jR⟩;have aV:Hid (DAt (w3.alloc (.cells #[(), .int .i64 (size:Nat),()] 254)) w w3 size [] [] (.slice none 0 0) (.slice none 0 0)):=⟨Blk.made _ _ _,Aq _ _ _ _,Aq _ _ _ _,(fun y h=>by cases h),kR⟩;have aQ:Hid (Cur (w3.alloc (.cells #[(), .int .i64 (size:Nat),()] 254)) g w ls B d at_ er):=HC.out.step (bZ (Ag _ _));have aT:Hid ((w3.alloc (.cells #[(), .int .i64 (size:Nat),()] 254)).ownsRow w2 3 1 (.slice va q vc) q (cZ .i64 G)):=HO.out.alloc _;have ax:Hid (aO w w3):=bH.out.trans (HK.out.below fun b h=>⟨kR,kR⟩);have aS:Hid (aO w (w3.alloc (.cells #[(), .int .i64 (size:Nat),()] 254))):=lZ ax.out.size ax.out;generalize bh:w3.heap.size=gd at *;clear bh av HR HC HO HK ax;go_loopw [49] (fun iv wr=>∃ (i y E:Nat) (j:Int) (ts hs:List Str) (uT uH:Value),i<=q/\iv= .int .i64 i/\Hid (y=i*size)/\ts.length<=y/\hs.length<=ts.length/\Hid (∀s∈ts,s.length<=25)/\Hid (Cur wr g w ls B d E j)/\Hid (DAt wr w gd size ts hs uT uH)/\Hid (wr.ownsRow w2 3 1 (.slice va q vc) q (cZ .i64 G))/\Hid (aO w wr)/\Hid (j=0->R=bkR size ls (G.drop i) (n-y) E ts)/\Hid (j≠0->R=([],0,j))) (fun iv _=>q-(intOf iv).toNat)
    case atStart=>exact⟨0,0,at_,er,[],[], .slice none 0 0, .slice none 0 0,kR,rfl,mM,mY,mY,(fun s hs=>by simp at hs),aQ.out,aV.out,aT.out,aS.out,ar.out.1,ar.out.2⟩
    case round=>
     obtain⟨i,y,E,j,ts,hs,uT,uH,hi,rfl,HY,bT,bf,bt,HC,HD,HO,HB,HT,HE⟩:=hrel;clear aQ aV aT aS ar;have zr:=HB.out.size;by_cases bb:i<q
     ·have gi:=iQ ((i:Int)<q);have b3:=iQ (i<q);have b5:y+size<=x:=jy;have bO:=bd.out kR;obtain⟨k,hk⟩:∃k,G[i]? =some k:=⟨_,AE kj⟩;have ay:=HA.out k (BP hk);have ae:G.drop i=k :: G.drop (i+1):=(by obtain⟨hl,e⟩:=Ch.1 hk;rw[CU hl,e]);obtain⟨gv,cv,bA,bP,_⟩:=HO.out.form kR;injection bA with q1 q2 q3;subst q1 q3;clear q2;have ck:wr.cell? ⟨gv,i,none⟩=some (.int .i64 (k:Nat)):=lS;have bS:(0:Int)<=(i:Int):=kR;have bQ:(i:Int)<(q:Int):=kR;have DT:=Ic wr g w ls B d E j k bB.out kR HC.out;unfold IH at DT;have hT:j=0->R=bkR size ls (k :: G.drop (i+1)) (n-y) E ts:=fun h=>by rw[<-ae];exact HT.out h
      unfold bkR at hT;have a5:j≠0->Bh ls E j k=j:=fun h=>Ab h
      have aj:∀z∈AZ ls E j k,z<=255:=fun z hz=>by
       unfold AZ at hz;split at hz
       ·simp at hz
       ·split at hz
        ·simp at hz
        ·exact H8.out z (Be (BZ hz))
      have b7:=Pr ls E j k;have az:j=0->Bh ls E 0 k=Bh ls E j k/\AZ ls E 0 k=AZ ls E j k/\takeA ls E 0 k=takeA ls E j k:=fun h=>by subst h;exact⟨rfl,rfl,rfl⟩
      have N:Hid (j=0->R=if Bh ls E j k≠0 then([],0,Bh ls E j k)else if(Cp (AZ ls E j k) (min size (n-y)) true 0 ts).2≠0 then([],0,(Cp (AZ ls E j k) (min size (n-y)) true 0 ts).2)else bkR size ls (G.drop (i+1)) (n-y-size) (takeA ls E j k) (Cp (AZ ls E j k) (min size (n-y)) true 0 ts).1):=fun h=>kM
      have ag:=hid a5;have HK:=hid hk;generalize Bh ls E j k=e3 at *;generalize AZ ls E j k=pt at *;generalize takeA ls E j k=a3 at *;have aX:=hid aj;have DT:=hid DT;clear ae hk hT a5 aj az HT;go_wp2_with fail;refine DT.out.mono ?_;rintro e w4 ⟨v4,rfl,L,af,J⟩;obtain⟨Ap,cp,rfl⟩:=aZ L;have z4:=J.size;have ai:=hid af;have Y:Hid (DAt w4 w gd size ts hs uT uH):=HD.out.oth HC.out.blk J;have U:Hid (w4.ownsRow w2 3 1 (.slice (some ⟨gv,0,none⟩) q vc) q (cZ .i64 G)):=dZ HO.out (fun z hz=>J.block z ⟨(Ae HO.out z hz).2,jW⟩);have aw:Hid (aO w w4):=HB.out.trans (J.below fun b h=>⟨kR,kR⟩);have al:=hid L;have DE:=hid (CJ w4 g w ls B d a3 e3 af);clear L af J DT HC HD HO HB ck;go_wp2_with fail;refine DE.out.mono ?_;rintro e w5 ⟨rfl,rfl⟩;by_cases ab:e3=0
      ·subst ab;have ak:j=0:=Fm fun h=>h (ag.out h).symm;have hr:=N.out ak;rw[Aa (show ¬((0:Int)≠0) from fun h=>h rfl)]at hr;obtain⟨r,a1⟩:=iS (n-y);obtain⟨mn,an⟩:=iS (min size r);have sy:IntKind.i64.wrap ((i:Int)*(size:Int))=(y:Int):=mw;have sr:IntKind.i64.wrap ((n:Int)-(y:Int))=(r:Int):=lD;have bV:min (size:Int) (r:Int)=(mn:Int):=kR;rw[<-a1,<-an]at hr;have DF:=OY w5 Ap pt.length cp mn w gd size pt ts hs uT uH rfl kR aX.out (G7 al.out) (own_row al.out) kR Y.out bt.out kR bf;have am:=Lb pt mn true 0 ts;generalize Cp pt mn true 0 ts=F at *;obtain⟨f1,f2⟩:=F;simp only at hr am;have bL:mn<=size:=(by rw[an];exact Nat.min_le_left _ _);have aY:Hid (r-size=n-(y+size)):=mM;have DF:=hid DF;have ah:=hid hr;clear hr al N ag aX an DE a1 ak;go_wp2_with fail;refine DF.out.mono ?_;rintro e w6 ⟨rfl,aa,au⟩;have aU:Hid (aO w w6):=aw.out.trans (aa.below fun b hb=>QZ Y.out kR hb);by_cases hf:f2=0
       ·subst hf;obtain⟨aR,h6,bk,bi,aW,_,_,a4⟩:=au rfl;have bq:=hid (Oz ai.out Y.out aa);have a9:Hid (w6.ownsRow w2 3 1 (.slice (some ⟨gv,0,none⟩) q vc) q (cZ .i64 G)):=dZ U.out (fun z hz=>aa.block z (Nu Y.out U.out iX iX hz));have bj:=hid aW;have ba:=hid aR;have bp:=am rfl;have bC:Hid (R=bkR size ls (G.drop (i+1)) (n-(y+size)) a3 f1):=jM;have bc:Hid (y+size=(i+1)*size):=(by show _=_;rw[FJ,HY.out]);have bm:f1.length<=y+size:=kR;simp only at a4;clear aa au aR aW ah DF ai Y U aw bp am aY;go_wp2_with fail;go_roundw
        case measure=>exact jw
        case rel=>exact jg
       ·have gE:(f2 != 0)=true:=(by simpa using hf);have M:Hid (R=([],0,f2)):=(by have h:=ah.out;rw[Ab hf]at h;exact h);have ac:=hid hf;clear hf ah au aa DF HE;go_wp2_with fail
        go_ret3
        exact Jw M.out ac.out aU.out
      ·have gE:(e3 != 0)=true:=by simpa using ab
       have M:Hid (R=([],0,e3)):=by
        by_cases h:j=0
        ·have h2:=N.out h;rw[Ab ab]at h2;exact h2
        ·rw[ag.out h];exact HE.out h
       have ac:=hid ab;clear ab N HE ag DE;go_wp2_with fail
       go_ret3
       exact Jw M.out ac.out aw.out
     ·obtain rfl:i=q:=by omega
      have gi:=iR ((i:Int)<i);have DE:=hid (CJ wr g w ls B d E j HC.out);have DA:=hid (GQ wr g w ls B d E j HC.out);by_cases Q:j=0
      ·subst Q;have M:Hid (R=(ts,E,0)):=jJ;clear HT HE;go_wp2_with fail;refine DE.out.mono ?_;rintro e w5 ⟨rfl,rfl⟩;go_wp2_with fail;refine DA.out.mono ?_;rintro e w6 ⟨rfl,rfl⟩;go_wp2_with fail
       go_ret3
       rw[M.out];exact⟨HB.out,fun h=>absurd rfl h,fun _=>⟨gd,size,hs,uT,uH,rfl,HD.out⟩⟩
      ·have gE:(j != 0)=true:=(by simpa using Q);have M:Hid (R=([],0,j)):=HE.out Q;have ac:=hid Q;clear Q HT HE DA;go_wp2_with fail;refine DE.out.mono ?_;rintro e w5 ⟨rfl,rfl⟩;go_wp2_with fail
       go_ret3
       exact Jw M.out ac.out HB.out
  ·have g1:=iR ((x:Int)<n);have bY:=iR (x<n);have av:Hid ((er=0->Z=(G,at_,0))/\(er≠0->Z.2.2=er)):=⟨fun h=>by obtain⟨f,_,h2⟩:=HT.out h;rw[Ra kR]at h2;exact h2.symm,fun h=>(HE.out h).1⟩;clear HT HE;obtain⟨w3,rfl⟩:=iS wr;go_wp2_with fail;have ar:Hid ((er=0->R=bkR size ls (G.drop 0) (n-0) at_ [])/\(er≠0->R=([],0,er))):=⟨fun h=>jQ,fun h=>jR⟩;have aV:Hid (DAt (w3.alloc (.cells #[(), .int .i64 (size:Nat),()] 254)) w w3 size [] [] (.slice none 0 0) (.slice none 0 0)):=⟨Blk.made _ _ _,Aq _ _ _ _,Aq _ _ _ _,(fun y h=>by cases h),kR⟩;have aQ:Hid (Cur (w3.alloc (.cells #[(), .int .i64 (size:Nat),()] 254)) g w ls B d at_ er):=HC.out.step (bZ (Ag _ _));have aT:Hid ((w3.alloc (.cells #[(), .int .i64 (size:Nat),()] 254)).ownsRow w2 3 1 (.slice va q vc) q (cZ .i64 G)):=HO.out.alloc _;have ax:Hid (aO w w3):=bH.out.trans (HK.out.below fun b h=>⟨kR,kR⟩);have aS:Hid (aO w (w3.alloc (.cells #[(), .int .i64 (size:Nat),()] 254))):=lZ ax.out.size ax.out;generalize bh:w3.heap.size=gd at *;clear bh av HR HC HO HK ax;go_loopw [49] (fun iv wr=>∃ (i y E:Nat) (j:Int) (ts hs:List Str) (uT uH:Value),i<=q/\iv= .int .i64 i/\Hid (y=i*size)/\ts.length<=y/\hs.length<=ts.length/\Hid (∀s∈ts,s.length<=25)/\Hid (Cur wr g w ls B d E j)/\Hid (DAt wr w gd size ts hs uT uH)/\Hid (wr.ownsRow w2 3 1 (.slice va q vc) q (cZ .i64 G))/\Hid (aO w wr)/\Hid (j=0->R=bkR size ls (G.drop i) (n-y) E ts)/\Hid (j≠0->R=([],0,j))) (fun iv _=>q-(intOf iv).toNat)
   case atStart=>exact⟨0,0,at_,er,[],[], .slice none 0 0, .slice none 0 0,kR,rfl,mM,mY,mY,(fun s hs=>by simp at hs),aQ.out,aV.out,aT.out,aS.out,ar.out.1,ar.out.2⟩
   case round=>
    obtain⟨i,y,E,j,ts,hs,uT,uH,hi,rfl,HY,bT,bf,bt,HC,HD,HO,HB,HT,HE⟩:=hrel;clear aQ aV aT aS ar;have zr:=HB.out.size;by_cases bb:i<q
    ·have gi:=iQ ((i:Int)<q);have b3:=iQ (i<q);have b5:y+size<=x:=jy;have bO:=bd.out kR;obtain⟨k,hk⟩:∃k,G[i]? =some k:=⟨_,AE kj⟩;have ay:=HA.out k (BP hk);have ae:G.drop i=k :: G.drop (i+1):=(by obtain⟨hl,e⟩:=Ch.1 hk;rw[CU hl,e]);obtain⟨gv,cv,bA,bP,_⟩:=HO.out.form kR;injection bA with q1 q2 q3;subst q1 q3;clear q2;have ck:wr.cell? ⟨gv,i,none⟩=some (.int .i64 (k:Nat)):=lS;have bS:(0:Int)<=(i:Int):=kR;have bQ:(i:Int)<(q:Int):=kR;have DT:=Ic wr g w ls B d E j k bB.out kR HC.out;unfold IH at DT;have hT:j=0->R=bkR size ls (k :: G.drop (i+1)) (n-y) E ts:=fun h=>by rw[<-ae];exact HT.out h
     unfold bkR at hT;have a5:j≠0->Bh ls E j k=j:=fun h=>Ab h
     have aj:∀z∈AZ ls E j k,z<=255:=fun z hz=>by
      unfold AZ at hz;split at hz
      ·simp at hz
      ·split at hz
       ·simp at hz
       ·exact H8.out z (Be (BZ hz))
     have b7:=Pr ls E j k;have az:j=0->Bh ls E 0 k=Bh ls E j k/\AZ ls E 0 k=AZ ls E j k/\takeA ls E 0 k=takeA ls E j k:=fun h=>by subst h;exact⟨rfl,rfl,rfl⟩
     have N:Hid (j=0->R=if Bh ls E j k≠0 then([],0,Bh ls E j k)else if(Cp (AZ ls E j k) (min size (n-y)) true 0 ts).2≠0 then([],0,(Cp (AZ ls E j k) (min size (n-y)) true 0 ts).2)else bkR size ls (G.drop (i+1)) (n-y-size) (takeA ls E j k) (Cp (AZ ls E j k) (min size (n-y)) true 0 ts).1):=fun h=>kM
     have ag:=hid a5;have HK:=hid hk;generalize Bh ls E j k=e3 at *;generalize AZ ls E j k=pt at *;generalize takeA ls E j k=a3 at *;have aX:=hid aj;have DT:=hid DT;clear ae hk hT a5 aj az HT;go_wp2_with fail;refine DT.out.mono ?_;rintro e w4 ⟨v4,rfl,L,af,J⟩;obtain⟨Ap,cp,rfl⟩:=aZ L;have z4:=J.size;have ai:=hid af;have Y:Hid (DAt w4 w gd size ts hs uT uH):=HD.out.oth HC.out.blk J;have U:Hid (w4.ownsRow w2 3 1 (.slice (some ⟨gv,0,none⟩) q vc) q (cZ .i64 G)):=dZ HO.out (fun z hz=>J.block z ⟨(Ae HO.out z hz).2,jW⟩);have aw:Hid (aO w w4):=HB.out.trans (J.below fun b h=>⟨kR,kR⟩);have al:=hid L;have DE:=hid (CJ w4 g w ls B d a3 e3 af);clear L af J DT HC HD HO HB ck;go_wp2_with fail;refine DE.out.mono ?_;rintro e w5 ⟨rfl,rfl⟩;by_cases ab:e3=0
     ·subst ab;have ak:j=0:=Fm fun h=>h (ag.out h).symm;have hr:=N.out ak;rw[Aa (show ¬((0:Int)≠0) from fun h=>h rfl)]at hr;obtain⟨r,a1⟩:=iS (n-y);obtain⟨mn,an⟩:=iS (min size r);have sy:IntKind.i64.wrap ((i:Int)*(size:Int))=(y:Int):=mw;have sr:IntKind.i64.wrap ((n:Int)-(y:Int))=(r:Int):=lD;have bV:min (size:Int) (r:Int)=(mn:Int):=kR;rw[<-a1,<-an]at hr;have DF:=OY w5 Ap pt.length cp mn w gd size pt ts hs uT uH rfl kR aX.out (G7 al.out) (own_row al.out) kR Y.out bt.out kR bf;have am:=Lb pt mn true 0 ts;generalize Cp pt mn true 0 ts=F at *;obtain⟨f1,f2⟩:=F;simp only at hr am;have bL:mn<=size:=(by rw[an];exact Nat.min_le_left _ _);have aY:Hid (r-size=n-(y+size)):=mM;have DF:=hid DF;have ah:=hid hr;clear hr al N ag aX an DE a1 ak;go_wp2_with fail;refine DF.out.mono ?_;rintro e w6 ⟨rfl,aa,au⟩;have aU:Hid (aO w w6):=aw.out.trans (aa.below fun b hb=>QZ Y.out kR hb);by_cases hf:f2=0
      ·subst hf;obtain⟨aR,h6,bk,bi,aW,_,_,a4⟩:=au rfl;have bq:=hid (Oz ai.out Y.out aa);have a9:Hid (w6.ownsRow w2 3 1 (.slice (some ⟨gv,0,none⟩) q vc) q (cZ .i64 G)):=dZ U.out (fun z hz=>aa.block z (Nu Y.out U.out iX iX hz));have bj:=hid aW;have ba:=hid aR;have bp:=am rfl;have bC:Hid (R=bkR size ls (G.drop (i+1)) (n-(y+size)) a3 f1):=jM;have bc:Hid (y+size=(i+1)*size):=(by show _=_;rw[FJ,HY.out]);have bm:f1.length<=y+size:=kR;simp only at a4;clear aa au aR aW ah DF ai Y U aw bp am aY;go_wp2_with fail;go_roundw
       case measure=>exact jw
       case rel=>exact jg
      ·have gE:(f2 != 0)=true:=(by simpa using hf);have M:Hid (R=([],0,f2)):=(by have h:=ah.out;rw[Ab hf]at h;exact h);have ac:=hid hf;clear hf ah au aa DF HE;go_wp2_with fail
       go_ret3
       exact Jw M.out ac.out aU.out
     ·have gE:(e3 != 0)=true:=by simpa using ab
      have M:Hid (R=([],0,e3)):=by
       by_cases h:j=0
       ·have h2:=N.out h;rw[Ab ab]at h2;exact h2
       ·rw[ag.out h];exact HE.out h
      have ac:=hid ab;clear ab N HE ag DE;go_wp2_with fail
      go_ret3
      exact Jw M.out ac.out aw.out
    ·obtain rfl:i=q:=by omega
     have gi:=iR ((i:Int)<i);have DE:=hid (CJ wr g w ls B d E j HC.out);have DA:=hid (GQ wr g w ls B d E j HC.out);by_cases Q:j=0
     ·subst Q;have M:Hid (R=(ts,E,0)):=jJ;clear HT HE;go_wp2_with fail;refine DE.out.mono ?_;rintro e w5 ⟨rfl,rfl⟩;go_wp2_with fail;refine DA.out.mono ?_;rintro e w6 ⟨rfl,rfl⟩;go_wp2_with fail
      go_ret3
      rw[M.out];exact⟨HB.out,fun h=>absurd rfl h,fun _=>⟨gd,size,hs,uT,uH,rfl,HD.out⟩⟩
     ·have gE:(j != 0)=true:=(by simpa using Q);have M:Hid (R=([],0,j)):=HE.out Q;have ac:=hid Q;clear Q HT HE DA;go_wp2_with fail;refine DE.out.mono ?_;rintro e w5 ⟨rfl,rfl⟩;go_wp2_with fail
      go_ret3
      exact Jw M.out ac.out HB.out
end Idx
end Go.Proofs.YtfgdoknipbpfhaaGreatDoor
