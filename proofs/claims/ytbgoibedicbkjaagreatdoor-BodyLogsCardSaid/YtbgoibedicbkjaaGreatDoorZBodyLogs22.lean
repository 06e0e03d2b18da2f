/- A bucket of texts: t -/
import Derived.Test.YtbgoibedicbkjaaGreatDoorZBodyLogs16
import Derived.Test.YtbgoibedicbkjaaGreatDoorZBodyLogs21
namespace Go.Proofs.YtbgoibedicbkjaaGreatDoor
open Go.Lib (hid)
set_option maxHeartbeats 4000000
set_option maxRecDepth 100000
namespace Idx
open Go.RowKit Mem Own Canon Sift
open NumPut Recs Go.Proofs.YtbgoibedicbkjaaGreatDoor Crc Block
theorem UA(s:Str):Il (bs s)=Iu s:=by unfold Il Iu;rw[Cy];rfl
theorem Qf{s:Str}(h:s.length<=25):(Iu s).length<=28:=by have h1:=W5 (s:=bs s) (by rw[Cy];omega);rw[UA,Cy]at h1;omega
theorem Wz{x:Nat}(h:x<=127):(pZ x).length=1:=by rw[FV (by omega)];rfl
end Idx
namespace Idx
open Go.RowKit Mem Own Canon
open Go.Proofs.YtbgoibedicbkjaaGreatDoor.NumPut (pZ Cg)
def CV(size:Nat)(l:List Str)(k:Nat):List Str:=(l.drop (k*size)).take size
def nCh(size n:Nat):Nat:=(n+size-1) / size
theorem Lp{size n k:Nat}(h:1<=size):k<nCh size n↔k*size<n:=by unfold nCh;rw[Nat.lt_iff_add_one_le,Nat.le_div_iff_mul_le (by omega),EC];omega
theorem OO{size:Nat}(h:1<=size):nCh size 0=0:=by unfold nCh;exact Nat.div_eq_of_lt (by omega)
theorem Uk{size n:Nat}(h:1<=size)(hn:1<=n):nCh size n=nCh size (n-size)+1:=by
 unfold nCh;by_cases hs:size<=n
 ·have e:n+size-1=(n-size+size-1)+size:=by omega
  rw[e,Nat.add_div_right _ (by omega)]
 ·have e:n-size=0:=by omega
  rw[e,Bq,Nat.div_eq_of_lt (by omega:size-1<size)];have e2:n+size-1=(n-1)+size:=by omega
  rw[e2,Nat.add_div_right _ (by omega),Nat.div_eq_of_lt (by omega)]
theorem L8{size n:Nat}(h:1<=size):nCh size n<=n:=by refine Jq fun hn=> ?_;have h1:=(Lp (n:=n) (k:=n) h).1 (by omega);have h2:n*1<=n*size:=Nat.mul_le_mul_left n h;omega
theorem TG(size:Nat)(l:List Str):CV size l 0=l.take size:=by simp[CV]
theorem Tt(size:Nat)(l:List Str)(k:Nat):CV size l (k+1)=CV size (l.drop size) k:=by unfold CV;rw[List.drop_drop,EC,Nat.one_mul,Nat.add_comm]
theorem N3{size:Nat}(h:1<=size):∀ (f:Nat) (l:List Str),l.length<=f->Jy size f l=(List.range (nCh size l.length)).map (CV size l)
 |0,l,hl=>by
  have e:l.length=0:=by omega
  rw[e,OO h];rfl
 |f+1,l,hl=>by
  rw[Jy];by_cases e:l= []
  ·rw[Ab e,e];show []=(List.range (nCh size 0)).map _;rw[OO h];rfl
  ·have hp:1<=l.length:=Hq.2 e;rw[Aa e,Uk h hp,List.range_succ_eq_map,Ee,List.map_map,TG,N3 h f (l.drop size) (by rw[AQ];omega),AQ];congr 1;exact J1 fun k _=>(Tt size l k).symm
theorem Wl{size:Nat}(h:1<=size)(l:List Str):Kk size l=(List.range (nCh size l.length)).map (CV size l):=N3 h _ l (Aj _)
theorem L3{size:Nat}(h:1<=size)(l:List Str):ET size l=(pZ l.length++(List.range (nCh size l.length)).flatMap (fun k=>pZ (Ej (CV size l k)).length))++(List.range (nCh size l.length)).flatMap (fun k=>Ej (CV size l k)):=by unfold ET;rw[Wl h,List.flatMap_map,List.flatMap_map]
theorem P3:∀ (t:List Str) (i:Str),(∀s∈t,s.length<=25)->i.length<=25->(G0 i t).length<=31*t.length
 | [],_,_,_=>by simp[G0]
 |x :: t,i,h,hw=>by have hx:=h x EV;have ih:=P3 t x (fun s hs=>h s (EW _ hs)) hx;have ha:=(R9 i x).2;rw[G0,Ai,Ai,Bh,Wz (by omega)];have:=Qf (s:=x.drop (Bj i x)) (by rw[AQ];omega);omega
theorem NP{l:List Str}(h:∀s∈l,s.length<=25):(Ej l).length<=31*l.length:=by
 cases l with
 |nil=>simp[Ej]
 |cons x t=>rw[Ej,Ai,Bh];have:=Qf (h x EV);have:=P3 t x (fun s hs=>h s (EW _ hs)) (h x EV);omega
theorem Rw{size k:Nat}{l:List Str}{s:Str}(h:s∈CV size l k):s∈l:=Bb (BV h)
theorem Ri(size k:Nat)(l:List Str):(CV size l k).length=min size (l.length-k*size):=by unfold CV;rw[AO,AQ]
def Apt(v u:Value):Prop:=∀x,v.ownBlock=some x->u.ownBlock=some x->False
theorem Apt.symm{v u:Value}(h:Apt v u):Apt u v:=fun x a b=>h x b a
theorem Kn{w w':World}{base s m:Nat}{e:TypeId}{v v' u:Value}{ys:List Value}(hu:w.ownsRow base e s u m ys)(ha:Apt v u)(hg:w.grownBy w' v.ownBlock)(i:v'.ownBlock=v.ownBlock∨v'.ownBlock=some w.heap.size):
 w'.ownsRow base e s u m ys/\Apt v' u:=by
 refine⟨dZ hu fun y hy=>hg.block y (Ae hu y hy).2 fun e=>ha y e.symm hy,fun x hx hy=> ?_⟩;rcases i with h|h
 ·exact ha x (h ▸ hx) hy
 ·rw[h]at hx;have:=(Ae hu x hy).2;injection hx;omega
theorem PW{w:World}{base s m:Nat}{e:TypeId}{v u:Value}{xs:List Value}{B:Nat}(hv:w.ownsRow base e s v m xs)(hB:B<=base)(hu:∀x,u.ownBlock=some x->x<B):Apt v u:=
 fun x a b=>by have:=(Ae hv x a).1;have:=hu x b;omega
theorem Rk:∀ (l:List Str) (i:Str),EH i l=true->∀s∈l,1<=s.length/\s.length<=25
 | [],_,_,s,hs=>by cases hs
 |x :: t,i,h,s,hs=>by
  rw[EH,CD]at h;rcases BZ.1 hs with rfl|hs
  ·have h1:=h.1;unfold Bm at h1;rw[CD,CD,decide_eq_true_iff,decide_eq_true_iff]at h1;exact⟨h1.1,h1.2.1⟩
  ·exact Rk t x h.2 s hs
theorem L7{l:List Str}(h:GF l=true):∀s∈l,1<=s.length/\s.length<=25:=by unfold GF at h;rw[CD]at h;exact Rk l [] h.1
def hdB(size:Nat)(l:List Str)(q:Nat):List Nat:=pZ l.length++(List.range q).flatMap (fun k=>pZ (Ej (CV size l k)).length)
def bdB(size:Nat)(l:List Str)(q:Nat):List Nat:=(List.range q).flatMap (fun k=>Ej (CV size l k))
theorem T3(size:Nat)(l:List Str)(q:Nat):hdB size l (q+1)=hdB size l q++pZ (Ej (CV size l q)).length:=by simp[hdB,List.range_succ]
theorem TM(size:Nat)(l:List Str)(q:Nat):bdB size l (q+1)=bdB size l q++Ej (CV size l q):=by simp[bdB,List.range_succ]
theorem VL{size:Nat}{l:List Str}(hs:∀s∈l,s.length<=25)(h2:size<=64)(q:Nat):(Ej (CV size l q)).length<=1984:=by have h:=NP (l:=CV size l q) (fun s hs'=>hs s (Rw hs'));rw[Ri]at h;omega
theorem Ll{size:Nat}{l:List Str}(hs:∀s∈l,s.length<=25)(h2:size<=64)(hl:l.length<=1000000):∀q,(hdB size l q).length<=10+10*q
 |0=>by have:=Cg (x:=l.length) (by omega);simp[hdB];omega
 |q+1=>by have ih:=Ll hs h2 hl q;have hc:=VL hs h2 q;have:=Cg (x:=(Ej (CV size l q)).length) (by omega);rw[T3,Ai];omega
theorem Kr{size:Nat}{l:List Str}(hs:∀s∈l,s.length<=25)(h1:1<=size):∀q,(bdB size l q).length<=31*min (q*size) l.length
 |0=>by simp[bdB]
 |q+1=>by have ih:=Kr hs h1 q;have hc:=NP (l:=CV size l q) (fun s hs'=>hs s (Rw hs'));rw[Ri]at hc;rw[TM,Ai,EC,Nat.one_mul];omega
end Idx
namespace Idx
open Go.RowKit Mem Own Canon
open NumPut Recs Go.Proofs.YtbgoibedicbkjaaGreatDoor Crc Block
def C9(x:Nat):List Nat:= [x % 256,x / 256 % 256,x / 65536 % 256,x / 16777216 % 256]
def FA(x:Nat):Nat->Array Value
 |0=>#[.int .u8 0, .int .u8 0, .int .u8 0, .int .u8 0]
 |1=>#[.int .u8 ((x:Int) % 256), .int .u8 0, .int .u8 0, .int .u8 0]
 |2=>#[.int .u8 ((x:Int) % 256), .int .u8 ((x:Int) / 256 % 256), .int .u8 0, .int .u8 0]
 |3=>#[.int .u8 ((x:Int) % 256), .int .u8 ((x:Int) / 256 % 256), .int .u8 ((x:Int) / 65536 % 256), .int .u8 0]
 |_=>#[.int .u8 ((x:Int) % 256), .int .u8 ((x:Int) / 256 % 256), .int .u8 ((x:Int) / 65536 % 256), .int .u8 ((x:Int) / 16777216 % 256)]
theorem Tz(x:Nat):(FA x 4).toList=cZ .u8 (C9 x):=by simp[FA,C9,cZ]
theorem Oo:(Tryz.prog.info? 5).map (fun i=>(i.zero,i.size,i.bytes))=some (some (.int .u8 0),1,1):=by kernel_rfl
theorem Vv(w:World):(Instr.makeSlice 22 (.int .i64 4) (.int .i64 4)).run Tryz.prog w= .ok (.slice (some ⟨w.heap.size,0,none⟩) 4 4) (w.alloc (.cells #[.int .u8 0, .int .u8 0, .int .u8 0, .int .u8 0] 5)):=by
 obtain⟨i0,hi,y,i,j⟩:=info_parts Oo;have h:=run_make (P:=Tryz.prog) w 22 5 i0 (.int .u8 0) Tryz.underlying22 hi y .i64 .i64 (4:Int) (4:Int) (by omega) (Int.le_refl _) (by rw[j];omega) (by omega);rw[h,i];have e:madeCells (Value.int IntKind.u8 0).cells (Int.toNat 4*1)=#[.int .u8 0, .int .u8 0, .int .u8 0, .int .u8 0]:=by kernel_rfl
 rw[e];rfl
theorem JF(x:Int):IntKind.u8.wrap x=x % 256:=IntKind.wrap_u8 x
theorem V5(w:World)(x:Nat)(hx:x<4294967296):
 Calls Tryz.prog 58 #[.int .u64 x, .int .i64 4] w fun e w'=>∃v,e= .returned (.tuple #[v, .int .i64 0])/\w'.ownsRow w.heap.size 5 1 v 4 (cZ .u8 (C9 x))/\Below w.heap.size w w':=by
 have hd:(((x:Int) / 4294967296) != 0)=false:=by simp;omega
 have hm:=Vv;have w0:=JF (x:Int);have w1:=JF ((x:Int) / 256);have w2:=JF ((x:Int) / 65536);have w3:=JF ((x:Int) / 16777216);go_enter Tryz.func58,Tryz.ntmps58;go_wp2_with fail;have j:Hid (Blk (w.alloc (.cells #[.int .u8 0, .int .u8 0, .int .u8 0, .int .u8 0] 5)) w.heap.size 5 (FA x 0)):=Blk.made _ _ _;have y:Hid (Below w.heap.size w (w.alloc (.cells #[.int .u8 0, .int .u8 0, .int .u8 0, .int .u8 0] 5))):=bZ (Ag _ _);generalize w.alloc (.cells #[.int .u8 0, .int .u8 0, .int .u8 0, .int .u8 0] 5)=wa at *;go_loopw [29] (fun iv wr=>∃k:Nat,k<=4/\iv= .int .i64 k/\Hid (Blk wr w.heap.size 5 (FA x k))/\Hid (Below w.heap.size w wr)) (fun iv _=>4-(intOf iv).toNat)
 case atStart=>exact⟨0,by omega,rfl,j.out,y.out⟩
 case round=>
  obtain⟨k,hk,rfl,HX,HB⟩:=hrel;clear j y hm;have z:k=0∨k=1∨k=2∨k=3∨k=4:=by omega
  rcases z with rfl|rfl|rfl|rfl|rfl
  ·have c:=HX.out.cell 0;have f:=HX.out.frozen 0;have h:Hid (Blk (wr.setCell ⟨w.heap.size,0,none⟩ (.int .u8 ((x:Int) % 256))) w.heap.size 5 (FA x 1)):=HX.out.set 0 _;have i:Hid (Below w.heap.size w (wr.setCell ⟨w.heap.size,0,none⟩ (.int .u8 ((x:Int) % 256)))):=nZ (Aj _) HB.out;simp[FA]at c;clear HX HB;go_wp2_with fail;exact⟨⟨1,by omega,rfl,h,i⟩,by simp[intOf]⟩
  ·have c:=HX.out.cell 1;have f:=HX.out.frozen 1;have h:Hid (Blk (wr.setCell ⟨w.heap.size,1,none⟩ (.int .u8 ((x:Int) / 256 % 256))) w.heap.size 5 (FA x 2)):=HX.out.set 1 _;have i:Hid (Below w.heap.size w (wr.setCell ⟨w.heap.size,1,none⟩ (.int .u8 ((x:Int) / 256 % 256)))):=nZ (Aj _) HB.out;simp[FA]at c;clear HX HB;go_wp2_with fail;exact⟨⟨2,by omega,rfl,h,i⟩,by simp[intOf]⟩
  ·have c:=HX.out.cell 2;have f:=HX.out.frozen 2;have h:Hid (Blk (wr.setCell ⟨w.heap.size,2,none⟩ (.int .u8 ((x:Int) / 65536 % 256))) w.heap.size 5 (FA x 3)):=HX.out.set 2 _;have i:Hid (Below w.heap.size w (wr.setCell ⟨w.heap.size,2,none⟩ (.int .u8 ((x:Int) / 65536 % 256)))):=nZ (Aj _) HB.out;simp[FA]at c;clear HX HB;go_wp2_with fail;exact⟨⟨3,by omega,rfl,h,i⟩,by simp[intOf]⟩
  ·have c:=HX.out.cell 3;have f:=HX.out.frozen 3;have h:Hid (Blk (wr.setCell ⟨w.heap.size,3,none⟩ (.int .u8 ((x:Int) / 16777216 % 256))) w.heap.size 5 (FA x 4)):=HX.out.set 3 _;have i:Hid (Below w.heap.size w (wr.setCell ⟨w.heap.size,3,none⟩ (.int .u8 ((x:Int) / 16777216 % 256)))):=nZ (Aj _) HB.out;simp[FA]at c;clear HX HB;go_wp2_with fail;exact⟨⟨4,by omega,rfl,h,i⟩,by simp[intOf]⟩
  ·go_wp2_with fail;go_ret2;refine⟨_,rfl,⟨rfl, .inr ⟨w.heap.size,4,_,rfl,Aj _,HX.out,by omega,by unfold maxLen;omega,rfl,?_⟩⟩,HB.out⟩;rw[<-Tz];rfl
def FW(x k:Nat):List Nat:=(List.range k).map fun i=>x / 256 ^ i % 256
theorem Vf(x:Nat):FW x 4=C9 x:=by simp[FW,C9,List.range_succ]
theorem UX(x k:Nat):FW x (k+1)=FW x k++ [x / 256 ^ k % 256]:=by simp[FW,List.range_succ]
theorem Te(w:World)(x:Nat)(hx:x<4294967296):
 Calls Tryz.prog 82 #[.int .u64 x, .int .i64 4] w fun e w'=>∃v,e= .returned (.tuple #[v, .int .i64 0])/\w'.ownsRow w.heap.size 5 1 v 4 (cZ .u8 (C9 x))/\Below w.heap.size w w':=by
 obtain⟨j0,U,M,L,G⟩:=info_parts Oo;go_enter Tryz.func82,Tryz.ntmps82;go_wp2_with fail;go_loopw [0,6,7] (fun xv uv iv wr=>∃k y:Nat,k<=4/\y<4294967296/\iv= .int .i64 k/\xv= .int .u64 y/\Hid (y=x / 256 ^ k)/\Hid (wr.ownsRow w.heap.size 5 1 uv k (cZ .u8 (FW x k)))/\Hid (Below w.heap.size w wr)) (fun _ _ iv _=>4-(intOf iv).toNat)
 case atStart=>exact⟨0,x,by omega,hx,rfl,rfl,(by show x=x / 256 ^ 0;simp),Am _ _ _ _,Ag _ _⟩
 case round=>
  obtain⟨k,y,hk,hy,rfl,rfl,HY,HO,HB⟩:=hrel;obtain⟨wi,rfl⟩:∃wi:World,wi=wr:=⟨_,rfl⟩;obtain⟨A1,c1,rfl⟩:=aZ HO.out;by_cases aa:k<4
  ·have gk:decide ((k:Int)<4)=true:=(by simp;omega);have Z:decide (k<4)=true:=(by simp;omega);have u1:IntKind.u8.wrap ((y:Int) % 256)=((y % 256:Nat):Int):=(by rw[JF];omega);have Q:=HB.out.size;have N:Hid (y / 256=x / 256 ^ (k+1)):=(by show _=_;rw[HY.out,Jo,En]);have HL:Hid (FW x (k+1)=FW x k++ [y % 256]):=(by show _=_;rw[UX,HY.out]);clear HY;go_wp2_with(at_builtin;refine gZ rfl (.tmp 19) (.tmp 23) 22 rfl w.heap.size 5 j0 _ 1 1 Tryz.underlying22 U M L G rfl (by decide) _ _ _ (by rfl) (HO.out.alloc _) _ 1 1 [.int .u8 (y % 256:Nat)] (by rfl) (Src.of_blk (Blk.made_at _ _ _ (by simp)) 1 1 1 rfl) (by intro u hu;simp at hu;rcases hu with rfl;rfl) (by unfold maxLen;omega) (by omega) (by simp;omega) ?_;intro v6 w6 h E i;obtain⟨A6,c6,rfl⟩:=aZ h);have Y:Hid (w6.ownsRow w.heap.size 5 1 (.slice A6 (k+1) c6) (k+1) (cZ .u8 (FW x (k+1)))):=(by show World.ownsRow _ _ _ _ _ _ _;rw[HL.out,show cZ .u8 (FW x k++ [y % 256])=cZ .u8 (FW x k)++ [.int .u8 (y % 256:Nat)] by simp[cZ]];exact h);have J:Hid (Below w.heap.size w w6):=(kZ Q HB.out).grown E (by simp;omega) (fun z hz=>(Ae HO.out z hz).1);clear h E i HO HB HL;go_roundw
   case measure=>go_light;simp[intOf];omega
   case rel=>go_light;exact⟨k+1,y / 256,by omega,by omega,by first|rfl|go_num,by first|rfl|go_num,N.out,Y.out,J.out⟩
  ·obtain rfl:k=4:=by omega
   have j:y=0:=(by rw[HY.out];exact Nat.div_eq_of_lt (by omega));subst j;clear HY;go_wp2_with fail;go_ret2;exact⟨_,rfl,by rw[<-Vf];exact HO.out,HB.out⟩
end Idx
namespace Ef
open Go.RowKit Mem Own Canon Huff NumPut
structure Prt (t:TypeId) (w:World) (base g W:Nat) (hs ls:List Nat) (vH vL:Value):Prop where
 blk:Blk w g t #[.int .i64 (W:Nat),vH,vL]
 oh:w.ownsRow base 3 1 vH hs.length (cZ .i64 hs)
 ol:w.ownsRow base 47 1 vL ls.length (cZ .u16 ls)
 gb:base<=g
theorem UE:(Tryz.prog.info? 47).map (fun i=>(i.zero,i.size,i.bytes))=some (some (.int .u16 0),1,2):=by kernel_rfl
theorem PP:(Tryz.prog.info? 3).map (fun i=>(i.zero,i.size,i.bytes))=some (some (.int .i64 0),1,8):=by kernel_rfl
theorem Prt.highs{t:TypeId}(j:3≠t)(E:47≠t){w w1 w3:World}{base g W x:Nat}{hs ls:List Nat}{vH vL v3:Value}(h:Prt t w base g W hs ls vH vL)(hb:Below w.heap.size w w1)(hg:w1.grownBy w3 vH.ownBlock)
 (i:w3.ownsRow base 3 1 v3 (hs.length+1) (cZ .i64 hs++ [.int .i64 (x:Nat)])):Prt t (w3.setCell ⟨g,1,none⟩ v3) base g W (hs++ [x]) ls v3 vL:=by
 have J:vH.ownBlock≠some g:=fZ h.oh h.blk j;have b1:=h.blk.step hb;have b3:Blk w3 g t #[.int .i64 (W:Nat),vH,vL]:=b1.grown hg (Bg J);have o1:w1.ownsRow base 47 1 vL ls.length (cZ .u16 ls):=dZ h.ol (fun y hy=>hb.block y (Ae h.ol y hy).2)
 have o3:w3.ownsRow base 47 1 vL ls.length (cZ .u16 ls):=dZ o1 (fun y hy=>hg.block y (Ae o1 y hy).2 (fun e=>by
  rcases EJ h.oh h.ol (by decide)with e2|e2
  ·rw[e2]at e;cases e
  ·exact e2 (by rw[<-e,hy])))
 have G:v3.ownBlock≠some g:=fZ i b3 j;have z:vL.ownBlock≠some g:=fZ o3 b3 E;refine⟨by simpa using b3.set 1 v3,?_,dZ o3 (fun y hy=>AK _ _ _ y (fun e=>z (by rw[hy,e]))),h.gb⟩;have e1:cZ .i64 (hs++ [x])=cZ .i64 hs++ [.int .i64 (x:Nat)]:=by simp[cZ]
 rw[Ai,e1];exact dZ i (fun y hy=>AK _ _ _ y (fun e=>G (by rw[hy,e])))
theorem Prt.lows{t:TypeId}(G:3≠t)(j:47≠t){w w1 w3:World}{base g W x:Nat}{hs ls:List Nat}{vH vL v3:Value}(h:Prt t w base g W hs ls vH vL)(hb:Below w.heap.size w w1)(hg:w1.grownBy w3 vL.ownBlock)
 (i:w3.ownsRow base 47 1 v3 (ls.length+1) (cZ .u16 ls++ [.int .u16 (x:Nat)])):Prt t (w3.setCell ⟨g,2,none⟩ v3) base g W hs (ls++ [x]) vH v3:=by
 have J:vL.ownBlock≠some g:=fZ h.ol h.blk j;have b1:=h.blk.step hb;have b3:Blk w3 g t #[.int .i64 (W:Nat),vH,vL]:=b1.grown hg (Bg J);have o1:w1.ownsRow base 3 1 vH hs.length (cZ .i64 hs):=dZ h.oh (fun y hy=>hb.block y (Ae h.oh y hy).2)
 have o3:w3.ownsRow base 3 1 vH hs.length (cZ .i64 hs):=dZ o1 (fun y hy=>hg.block y (Ae o1 y hy).2 (fun e=>by
  rcases EJ h.ol h.oh (by decide)with e2|e2
  ·rw[e2]at e;cases e
  ·exact e2 (by rw[<-e,hy])))
 have E:v3.ownBlock≠some g:=fZ i b3 j;have z:vH.ownBlock≠some g:=fZ o3 b3 G;refine⟨by simpa using b3.set 2 v3,dZ o3 (fun y hy=>AK _ _ _ y (fun e=>z (by rw[hy,e]))),?_,h.gb⟩;have e1:cZ .u16 (ls++ [x])=cZ .u16 ls++ [.int .u16 (x:Nat)]:=by simp[cZ]
 rw[Ai,e1];exact dZ i (fun y hy=>AK _ _ _ y (fun e=>E (by rw[hy,e])))
theorem Un:∀n:Int,0<=n->n<2 ^ 20->IntKind.i64.wrap n=n:=fun n h0 h1=>Ak _ (by omega)
theorem Tm(x W:Nat)(hx:x<=100000)(hW:W<=14):IntKind.u16.wrap (bits .and .i64 (x:Int) (IntKind.i64.wrap (IntKind.i64.wrap (2 ^ W)-1)))=((x % 2 ^ W:Nat):Int):=by
 have h1:2 ^ W<=2 ^ 14:=Bu (by omega) hW;have h0:1<=2 ^ W:=Nat.one_le_two_pow;have e0:((2:Int) ^ W)=((2 ^ W:Nat):Int):=by simp
 have h:x % 2 ^ W<2 ^ W:=Nat.mod_lt _ (by omega);rw[e0,Ak ((2 ^ W:Nat):Int) (by omega)];have e1:(((2 ^ W:Nat):Int)-1)=((2 ^ W-1:Nat):Int):=by omega
 rw[e1,Ak ((2 ^ W-1:Nat):Int) (by omega),(bits_nat .i64 20 (by decide) Un x (2 ^ W-1) (by omega) (by omega)).1,LG,IntKind.wrap_u16];omega
theorem T6(t:TypeId)(Y:3≠t)(Z:47≠t)(w:World)(base g W:Nat)(hs ls:List Nat)(vH vL:Value)(x:Nat)(hx:x<=100000)(hW:W<=14)(hh:hs.length<=100000)(hl:ls.length<=100000)(hP:Prt t w base g W hs ls vH vL):
 Calls Tryz.prog 152 #[.pointer (some ⟨g,0,none⟩), .int .i64 (x:Nat)] w fun e w'=>e= .returned (.tuple #[])/\∃vH' vL',Prt t w' base g W (hs++ [x / 2 ^ W]) (ls++ [x % 2 ^ W]) vH' vL'/\Below base w w'/\Kept (fun y=>y<w.heap.size/\y≠g/\vH.ownBlock≠some y/\vL.ownBlock≠some y) w w'/\(∀y,y<w.heap.size->vL'.ownBlock=some y->vL.ownBlock=some y):=by
 obtain⟨j0,aD,aC,av,ak⟩:=info_parts PP;obtain⟨k0,aA,am,az,aw⟩:=info_parts UE;have c0:=hP.blk.cell 0;have c1:=hP.blk.cell 1;have c2:=hP.blk.cell 2;have f1:=hP.blk.frozen 1;have f2:=hP.blk.frozen 2;simp only[List.getElem?_toArray,List.getElem?_cons_zero,List.getElem?_cons_succ]at c0 c1 c2;have ay:=hP.blk.lt;have ag:=hP.gb;have J:=hP.oh;have aj:some g≠vH.ownBlock:=Bg (fZ hP.oh hP.blk Y);obtain⟨p,hp⟩:∃p,p=hs.length:=⟨_,rfl⟩;obtain⟨q,hq⟩:∃q,q=ls.length:=⟨_,rfl⟩;rw[<-hp]at J hh;obtain⟨AH,cH,rfl⟩:=aZ J;have HP:=hid hP;have aB:=hid hp;have aa:=hid hq;have aE:=hid hl;obtain⟨hi,N⟩:∃hi,hi=x / 2 ^ W:=⟨_,rfl⟩;obtain⟨lo,Q⟩:∃lo,lo=x % 2 ^ W:=⟨_,rfl⟩;rw[<-N,<-Q];have eh:(x:Int) / 2 ^ W=(hi:Int):=by rw[N];simp
 have el:IntKind.u16.wrap (bits .and .i64 (x:Int) (IntKind.i64.wrap (IntKind.i64.wrap (2 ^ W)-1)))=(lo:Int):=by rw[Q];exact Tm x W hx hW
 have aJ:=hid N;have aI:=hid Q;clear hP hp hq N Q hl;go_enter Tryz.func152,Tryz.ntmps152;go_upto_region 0 with fail;go_region_law((refine step_append_lies _ (by rfl) _ _ _ (by rfl) base 3 j0 _ 1 8 Tryz.underlying30 aD aC av ak rfl (by omega) (.slice AH p cH) p (cZ .i64 hs) (by rfl) ((J.alloc _).drew) ⟨w.heap.size,0,none⟩ 1 1 [.int .i64 (hi:Nat)] (by rfl) (by rfl) (World.news_of_block (cs:=#[.int .i64 (hi:Nat)]) (t:=3) (fr:=(0,0)) (heap_alloc_new w _)) (by intro u hu;simp at hu;subst hu;rfl) (by omega) (by unfold maxLen;omega) (by omega) (by simp;omega) (w.heap.size+1) (by simp) ?_;intro g3 z w3 M j aF ah;have gb:w3.heap[g]? =w.heap[g]? :=(j.block g (by simp;omega) aj).trans (BI w _ g ay);have p0:=(World.cell?_of_block (a:=⟨g,0,none⟩) gb).trans c0;have p1:=(World.cell?_of_block (a:=⟨g,1,none⟩) gb).trans c1;have p2:=(World.cell?_of_block (a:=⟨g,2,none⟩) gb).trans c2;have q1:=(World.frozen?_of_block (a:=⟨g,1,none⟩) gb).trans f1))
 all_goals
  have E:Prt t (w3.setCell ⟨g,1,none⟩ (.slice (some ⟨g3,0,none⟩) (p+1) z)) base g W (hs++ [hi]) ls (.slice (some ⟨g3,0,none⟩) (p+1) z) vL:=HP.out.highs Y Z (bZ (Ag _ w)).drew j (by rw[<-aB.out];exact M);have ac:Below base w (w3.setCell ⟨g,1,none⟩ (.slice (some ⟨g3,0,none⟩) (p+1) z)):=(((Ag base w).alloc (by omega) _).drew.grown j (by simp;omega) (fun y hy=>(Ae J y hy).1)).setCell (p:=⟨g,1,none⟩) ag _;have af:Hid (Kept (fun y=>y<w.heap.size/\y≠g/\(Value.slice AH p cH).ownBlock≠some y/\vL.ownBlock≠some y) w (w3.setCell ⟨g,1,none⟩ (.slice (some ⟨g3,0,none⟩) (p+1) z))):=((((Kept.refl _ w).alloc (fun y hy=>hy.1) _).drew.grown j (fun y hy=>by have:=hy.1;simp;omega) (fun y hy hk=>hk.2.2.1 hy))).set (fun h=>h.2.1 rfl) _;generalize w3.setCell ⟨g,1,none⟩ (.slice (some ⟨g3,0,none⟩) (p+1) z)=wb at *;clear M j aF ah gb p0 p1 p2 q1;have ax:=hid ac;have d0:=E.blk.cell 0;have d2:=E.blk.cell 2;have e2:=E.blk.frozen 2;simp only[List.getElem?_toArray,List.getElem?_cons_zero,List.getElem?_cons_succ]at d0 d2;have ae:=E.blk.lt;have G:=E.ol;have ai:some g≠vL.ownBlock:=Bg (fZ E.ol E.blk Z);rw[<-aa.out]at G;obtain⟨AL,cL,rfl⟩:=aZ G;have an:=hid E;have aH:q<=100000:=by rw[aa.out];exact aE.out
  clear E ac c0 c1 c2 f1 f2 aj J;go_upto_region 1 with fail;go_region_law((refine step_append_lies _ (by rfl) _ _ _ (by rfl) base 47 k0 _ 1 2 Tryz.underlying200 aA am az aw rfl (by omega) (.slice AL q cL) q (cZ .u16 ls) (by rfl) ((G.alloc _).drew) ⟨wb.heap.size,0,none⟩ 1 1 [.int .u16 (lo:Nat)] (by rfl) (by rfl) (World.news_of_block (cs:=#[.int .u16 (lo:Nat)]) (t:=47) (fr:=(0,0)) (heap_alloc_new wb _)) (by intro u hu;simp at hu;subst hu;rfl) (by omega) (by unfold maxLen;omega) (by omega) (by simp;omega) (wb.heap.size+1) (by simp) ?_;intro g4 L w4 ab i U aG;have gb:w4.heap[g]? =wb.heap[g]? :=(i.block g (by simp;omega) ai).trans (BI wb _ g ae);have p0:=(World.cell?_of_block (a:=⟨g,0,none⟩) gb).trans d0;have p2:=(World.cell?_of_block (a:=⟨g,2,none⟩) gb).trans d2;have q2:=(World.frozen?_of_block (a:=⟨g,2,none⟩) gb).trans e2))
  all_goals
   have aq:Prt t (w4.setCell ⟨g,2,none⟩ (.slice (some ⟨g4,0,none⟩) (q+1) L)) base g W (hs++ [hi]) (ls++ [lo]) (.slice (some ⟨g3,0,none⟩) (p+1) z) (.slice (some ⟨g4,0,none⟩) (q+1) L):=an.out.lows Y Z (bZ (Ag _ wb)).drew i (by rw[<-aa.out];exact ab);have al:Below base w (w4.setCell ⟨g,2,none⟩ (.slice (some ⟨g4,0,none⟩) (q+1) L)):=((ax.out.alloc (by omega) _).drew.grown i (by simp;omega) (fun y hy=>(Ae G y hy).1)).setCell (p:=⟨g,2,none⟩) ag _;have zz:=af.out.size;have ar:Hid (Kept (fun y=>y<w.heap.size/\y≠g/\(Value.slice AH p cH).ownBlock≠some y/\(Value.slice AL q cL).ownBlock≠some y) w (w4.setCell ⟨g,2,none⟩ (.slice (some ⟨g4,0,none⟩) (q+1) L))):=(((af.out.alloc (fun y hy=>by have:=hy.1;omega) _).drew.grown i (fun y hy=>by have:=hy.1;simp;omega) (fun y hy hk=>hk.2.2.2 hy))).set (fun h=>h.2.1 rfl) _
   have au:Hid (∀y,y<w.heap.size->(Value.slice (some ⟨g4,0,none⟩) (q+1) L).ownBlock=some y->(Value.slice AL q cL).ownBlock=some y):=fun y hy he=>by
    rcases U with h|h
    ·rw[h];exact he
    ·have e:g4=y:=(by injection he);omega
   clear U;go_wp2_with fail
   go_end0
   exact⟨rfl,_,_,aq,al,ar.out,au.out⟩
end Ef
namespace Ef
open Go.RowKit Mem Own Canon Huff NumPut
open Go.Proofs.YtbgoibedicbkjaaGreatDoor.Block (zZ)
theorem own_row{w:World}{base:Nat}{e:TypeId}{k:IntKind}{A:Option Addr}{n c:Nat}{ls:List Nat}(h:w.ownsRow base e 1 (.slice A n c) n (cZ k ls))(hn:ls.length=n):Row w w.heap.size A n 1 (iZ k ls):=
 Row.of_own h rfl (fun i j hi hj=>by have e0:j=0:=(by omega);subst e0;exact numL_get (by omega))
end Ef
namespace Body
open Go.RowKit Mem Own Canon Nums
theorem own_far{w w':World}{base i:Nat}{e e':TypeId}{s s' n n':Nat}{v v':Value}{xs j:List Value}(h:w.ownsRow base e s v n xs)(h2:w.ownsRow i e' s' v' n' j)(z:e'≠e)(hg:w.grownBy w' v'.ownBlock):w'.ownsRow base e s v n xs:=
 dZ h fun y hy=>hg.block y (Ae h y hy).2 fun e2=>by
  rcases EJ h2 h z with e3|e3
  ·rw[e3]at e2;cases e2
  ·exact e3 (by rw[<-e2,hy])
theorem MT{P:Program}{w:World}{j:Array Oper}{o:Oper}{a:Act}{K:Act->World->Prop}{Q:Exit->Act->World->Prop}{E:Prop}(y:o.guard=none)(s x:Operand)(t:TypeId)
 (ho:o.op= .call {callee:= .builtin .append,args:=#[s,x],argTypes:=#[t,t] })
 (base:Nat)(e:TypeId)(i:TypeInfo)(z:Value)(size bytes:Nat)(ht:P.underlying t=some (.slice e))(hi:P.info? e=some i)(hz:i.zero=some z)
 (hsize:i.size=size)(hby:i.bytes=bytes)(hzs:z.cells.size=size)(hsz:0<size)
 (v:Value)(n:Nat)(xs:List Value)(hs:a.eval s=v)(hown:w.ownsRow base e size v n xs)
 (A:Option Addr)(m c:Nat)(news:List Value)(hx:a.eval x= .slice A m c)(hsrc:Src w A m c size news)(h1:∀u∈news,u.oneCell'=true)
 (h63:n+m<=maxLen)(hbytes:(n+m)*bytes<=140737488355328)(hbase:base<=w.heap.size)
 (h:∀A' c' w',w'.ownsRow base e size (.slice A' (n+m) c') (n+m) (xs++news)->w.grownBy w' v.ownBlock->((Value.slice A' (n+m) c').ownBlock=v.ownBlock∨(Value.slice A' (n+m) c').ownBlock=some w.heap.size)->K (a.put o.dst (.slice A' (n+m) c')) w'):
 if Region.wanted o (yielded j a.tmps)=true then Oper.wp P o a w K Q else E:=by
 have hw:Region.wanted o (yielded j a.tmps)=true:=by simp[Region.wanted,y]
 rw[Ab hw];obtain⟨v',w',hr,h2,h3,h4⟩:=Mb (P:=P) w base t o.type e i z size bytes ht hi hz hsize hby hzs hsz v n xs hown A m c news hsrc h1 h63 hbytes hbase;obtain⟨A',c',rfl⟩:=aZ h2;unfold Oper.wp execOp;simp only[ho,resolve,invoke,builtin,Sem.run_bind,Sem.run_pure,Result.andThen_ok,List.map_toArray,List.map_cons,List.map_nil,hs,hx,hr];exact h A' c' w' h2 h3 h4
def CZ(rec:Nat)(ls:List Nat):Nat->Nat->Int->List Nat->List Nat->List Nat×List Nat×Nat×Int
 |0,at_,er,cs,ss=>(cs,ss,at_,er)
 |k+1,at_,er,cs,ss=>if er≠0 then(cs,ss,at_,er)else CZ rec ls k (mZ 8388608 ls (mZ rec ls at_ 0) (oZ rec ls at_ 0)) (oZ 8388608 ls (mZ rec ls at_ 0) (oZ rec ls at_ 0)) (cs++ [xZ rec ls at_ 0]) (ss++ [xZ 8388608 ls (mZ rec ls at_ 0) (oZ rec ls at_ 0)])
theorem N9{rec:Nat}{ls:List Nat}{k at_:Nat}{er:Int}{cs ss:List Nat}(h:er≠0):CZ rec ls k at_ er cs ss=(cs,ss,at_,er):=by
 cases k with
 |zero=>rfl
 |succ k=>exact Ab h
def BW(ls:List Nat):Nat:=xZ 20000 ls 0 0
def Ex(ls:List Nat):Nat:=xZ (BW ls) ls (mZ 20000 ls 0 0) (oZ 20000 ls 0 0)
def EQ(ls:List Nat):List Nat×List Nat×Nat×Int:=CZ (BW ls) ls (Ex ls) (mZ (BW ls) ls (mZ 20000 ls 0 0) (oZ 20000 ls 0 0)) (oZ (BW ls) ls (mZ 20000 ls 0 0) (oZ 20000 ls 0 0)) [] []
def Bt(ls:List Nat):List Nat:=(EQ ls).1
def Cd(ls:List Nat):List Nat:=(EQ ls).2.1
def dP(ls:List Nat):Nat:=xZ 8388608 ls (EQ ls).2.2.1 (EQ ls).2.2.2
def dPA(ls:List Nat):Nat:=mZ 8388608 ls (EQ ls).2.2.1 (EQ ls).2.2.2
def dPE(ls:List Nat):Int:=oZ 8388608 ls (EQ ls).2.2.1 (EQ ls).2.2.2
def dQ(ls:List Nat):Nat:=xZ 8388608 ls (dPA ls) (dPE ls)
def dE(ls:List Nat):Int:=Ez ls (mZ 8388608 ls (dPA ls) (dPE ls)) (oZ 8388608 ls (dPA ls) (dPE ls))
def Ew(room:Nat)(ls:List Nat):Int:=if dE ls≠0 then dE ls else if 0∈Bt ls∨(Bt ls).sum≠BW ls∨(Cd ls).sum+dP ls+dQ ls≠room then 2 else 0
theorem Kl{rec:Nat}{ls:List Nat}:∀ (k at_:Nat) (er:Int) (cs ss:List Nat),cs.length=ss.length->(CZ rec ls k at_ er cs ss).1.length=(CZ rec ls k at_ er cs ss).2.1.length/\(CZ rec ls k at_ er cs ss).1.length<=cs.length+k/\((CZ rec ls k at_ er cs ss).2.2.2=0->(CZ rec ls k at_ er cs ss).1.length=cs.length+k)
 |0,_,_,_,_,h=>⟨h,Aj _,fun _=>rfl⟩
 |k+1,at_,er,cs,ss,h=>by
  unfold CZ;split
  ·rename_i he;exact⟨h,Nat.le_add_right _ _,fun h2=>absurd h2 he⟩
  ·obtain⟨h1,h2,h3⟩:=Kl (rec:=rec) (ls:=ls) k (mZ 8388608 ls (mZ rec ls at_ 0) (oZ rec ls at_ 0)) (oZ 8388608 ls (mZ rec ls at_ 0) (oZ rec ls at_ 0)) (cs++ [xZ rec ls at_ 0]) (ss++ [xZ 8388608 ls (mZ rec ls at_ 0) (oZ rec ls at_ 0)]) (by rw[Ai,Ai,h];rfl);rw[Ai]at h2 h3;exact⟨h1,by simp at h2;omega,fun h4=>by have:=h3 h4;simp at this;omega⟩
theorem LV{rec:Nat}{ls:List Nat}(h8:∀x∈ls,x<=255):∀ (k at_:Nat) (er:Int) (cs ss:List Nat),(∀x∈cs,x<=rec)->(∀x∈ss,x<=8388608)->(∀x∈(CZ rec ls k at_ er cs ss).1,x<=rec)/\(∀x∈(CZ rec ls k at_ er cs ss).2.1,x<=8388608)
 |0,_,_,_,_,h,h2=>⟨h,h2⟩
 |k+1,at_,er,cs,ss,h,h2=>by
  unfold CZ;split
  ·exact⟨h,h2⟩
  ·refine LV h8 k _ _ _ _ (fun x hx=> ?_) (fun x hx=> ?_)
   ·rcases BH.1 hx with h'|h'
    ·exact h x h'
    ·rw[Df]at h';rw[h'];exact Cs h8 _ _
   ·rcases BH.1 hx with h|h'
    ·exact h2 x h
    ·rw[Df]at h';rw[h'];exact Cs h8 _ _
theorem Jr:∀ (l:List Nat) (m:Nat),(∀x∈l,x<=m)->l.sum<=l.length*m
 | [],_,_=>by simp
 |x :: l,m,h=>by rw[GR,Bh,Fh];have h1:=Jr l m (fun y hy=>h y (EW _ hy));have h2:=h x (EV ..);omega
structure DrI (w wr:World) (gb:Nat) (t:TypeId) (rest:List Value) (g:Nat) (ls:List Nat) (B:Option Addr) (d at_:Nat) (er:Int) (C S:List Nat) (vc vs:Value):Prop where
 cur:Cur wr g w.heap.size ls B d at_ er
 blk:Blk wr gb t (vc :: vs :: rest).toArray
 oc:wr.ownsRow w.heap.size 3 1 vc C.length (cZ .i64 C)
 os:wr.ownsRow w.heap.size 3 1 vs S.length (cZ .i64 S)
 ap:∀y,vc.ownBlock=some y->vs.ownBlock≠some y
 kept:Kept (fun x=>x<w.heap.size/\x≠gb) w wr
 lt:gb<w.heap.size
 ti:3≠t
 tu:5≠t
section
variable {w wr w1 w2 w3:World} {gb:Nat} {t:TypeId} {rest:List Value} {g:Nat} {ls:List Nat} {B:Option Addr} {d at_ a2:Nat} {er e2:Int} {C S:List Nat} {vc vs v3:Value} {x:Nat}
theorem DrI.call(h:DrI w wr gb t rest g ls B d at_ er C S vc vs)(j:Cur w2 g w.heap.size ls B d a2 e2)(i:Kept (uZ g wr) wr w2):DrI w w2 gb t rest g ls B d a2 e2 C S vc vs:=
 have hz:=h.kept.size;have z:=h.cur.lo;have E:=h.lt
 ⟨j,(i.block gb ⟨h.blk.lt,by omega⟩).trans h.blk,dZ h.oc (fun y hy=>i.block y ⟨(Ae h.oc y hy).2,fun e=>fZ h.oc h.cur.blk (by decide) (e ▸ hy)⟩),dZ h.os (fun y hy=>i.block y ⟨(Ae h.os y hy).2,fun e=>fZ h.os h.cur.blk (by decide) (e ▸ hy)⟩),h.ap,h.kept.trans ⟨i.os,i.tape,i.output,i.size,fun y hy=>i.block y ⟨by have:=hy.1;omega,by have:=hy.1;omega⟩⟩,h.lt,h.ti,h.tu⟩
theorem DrI.cs(h:DrI w wr gb t rest g ls B d at_ er C S vc vs):wr.cell? ⟨gb,0,none⟩=some vc/\wr.cell? ⟨gb,1,none⟩=some vs:=by have h0:=h.blk.cell 0;have h1:=h.blk.cell 1;simp only[List.getElem?_toArray,List.getElem?_cons_zero,List.getElem?_cons_succ]at h0 h1;exact⟨h0,h1⟩
theorem DrI.third{x2:Value}(h:DrI w wr gb t (x2 :: rest) g ls B d at_ er C S vc vs){u:Value}:DrI w (wr.setCell ⟨gb,2,none⟩ u) gb t (u :: rest) g ls B d at_ er C S vc vs:=by have i:=h.cur.lo;have j:=h.lt;exact⟨⟨h.cur.blk.far (by show g≠gb;omega) _,wZ h.cur.own (fZ h.cur.own h.blk h.tu) _,h.cur.le,h.cur.lo⟩,by simpa using h.blk.set 2 u,wZ h.oc (fZ h.oc h.blk h.ti) _,wZ h.os (fZ h.os h.blk h.ti) _,h.ap,h.kept.set (fun hk=>hk.2 rfl) _,h.lt,h.ti,h.tu⟩
theorem DrI.fourth{x2 x3:Value}(h:DrI w wr gb t (x2 :: x3 :: rest) g ls B d at_ er C S vc vs){u:Value}:DrI w (wr.setCell ⟨gb,3,none⟩ u) gb t (x2 :: u :: rest) g ls B d at_ er C S vc vs:=by have i:=h.cur.lo;have j:=h.lt;exact⟨⟨h.cur.blk.far (by show g≠gb;omega) _,wZ h.cur.own (fZ h.cur.own h.blk h.tu) _,h.cur.le,h.cur.lo⟩,by simpa using h.blk.set 3 u,wZ h.oc (fZ h.oc h.blk h.ti) _,wZ h.os (fZ h.os h.blk h.ti) _,h.ap,h.kept.set (fun hk=>hk.2 rfl) _,h.lt,h.ti,h.tu⟩
theorem GZ{w:World}{base n c:Nat}{A:Option Addr}{y:List Nat}(h:w.ownsRow base 3 1 (.slice A n c) n (cZ .i64 y))(hn:y.length=n):Row w w.heap.size A n 1 (iZ .i64 y):=
 Row.of_own h rfl fun i j hi hj=>by
  obtain rfl:j=0:=by omega
  unfold cZ;rw[EM,CW,Bw,AD (by omega)];unfold iZ;rw[Ar,AD (by omega)];rfl
theorem DrI.count(h:DrI w wr gb t rest g ls B d at_ er C S vc vs)(hb:Below wr.heap.size wr w1)(hg:w1.grownBy w3 vc.ownBlock)(i:w3.ownsRow w.heap.size 3 1 v3 (C.length+1) (cZ .i64 C++ [.int .i64 (x:Nat)]))(z:v3.ownBlock=vc.ownBlock∨v3.ownBlock=some w1.heap.size):
 DrI w (w3.setCell ⟨gb,0,none⟩ v3) gb t rest g ls B d at_ er (C++ [x]) S v3 vs:=by
 have b3:=(h.blk.step hb).grown hg (Bg (fZ h.oc h.blk h.ti));have o1:w1.ownsRow w.heap.size 3 1 vs S.length (cZ .i64 S):=dZ h.os (fun y hy=>hb.block y (Ae h.os y hy).2);have o3:w3.ownsRow w.heap.size 3 1 vs S.length (cZ .i64 S):=dZ o1 (fun y hy=>hg.block y (Ae o1 y hy).2 (fun e=>h.ap y e.symm hy));have c1:=h.cur.step hb;have j:w1.ownsRow w.heap.size 3 1 vc C.length (cZ .i64 C):=dZ h.oc (fun y hy=>hb.block y (Ae h.oc y hy).2);have c3:Cur w3 g w.heap.size ls B d at_ er:=⟨c1.blk.grown hg (Bg (fZ j c1.blk (by decide))),own_far c1.own j (by decide) hg,c1.le,c1.lo⟩;have E:=h.cur.lo;have G:=h.lt;refine⟨⟨c3.blk.far (by show g≠gb;omega) _,wZ c3.own (fZ c3.own b3 h.tu) _,c3.le,c3.lo⟩,by simpa using b3.set 0 v3,?_,wZ o3 (fZ o3 b3 h.ti) _,?_,?_,h.lt,h.ti,h.tu⟩
 ·rw[Ai,show cZ .i64 (C++ [x])=cZ .i64 C++ [.int .i64 (x:Nat)] by simp[cZ]];exact wZ i (fZ i b3 h.ti) _
 ·intro y hy hh;rcases z with e|e
  ·exact h.ap y (by rw[<-e];exact hy) hh
  ·rw[e]at hy;injection hy with hy;have:=(Ae h.os y hh).2;have:=hb.size;omega
 ·have hz:=h.kept.size;exact((h.kept.trans (Kept.of_below hb (fun y hy=>by have:=hy.1;omega))).grown hg (fun y hy=>by have:=hy.1;have:=hb.size;omega) (fun y hy hk=>by have:=(Ae h.oc y hy).1;have:=hk.1;omega)).set (fun hk=>hk.2 rfl) _
theorem DrI.size(h:DrI w wr gb t rest g ls B d at_ er C S vc vs)(hb:Below wr.heap.size wr w1)(hg:w1.grownBy w3 vs.ownBlock)(i:w3.ownsRow w.heap.size 3 1 v3 (S.length+1) (cZ .i64 S++ [.int .i64 (x:Nat)]))(z:v3.ownBlock=vs.ownBlock∨v3.ownBlock=some w1.heap.size):
 DrI w (w3.setCell ⟨gb,1,none⟩ v3) gb t rest g ls B d at_ er C (S++ [x]) vc v3:=by
 have b3:=(h.blk.step hb).grown hg (Bg (fZ h.os h.blk h.ti));have o1:w1.ownsRow w.heap.size 3 1 vc C.length (cZ .i64 C):=dZ h.oc (fun y hy=>hb.block y (Ae h.oc y hy).2);have o3:w3.ownsRow w.heap.size 3 1 vc C.length (cZ .i64 C):=dZ o1 (fun y hy=>hg.block y (Ae o1 y hy).2 (fun e=>h.ap y hy e.symm));have c1:=h.cur.step hb;have j:w1.ownsRow w.heap.size 3 1 vs S.length (cZ .i64 S):=dZ h.os (fun y hy=>hb.block y (Ae h.os y hy).2);have c3:Cur w3 g w.heap.size ls B d at_ er:=⟨c1.blk.grown hg (Bg (fZ j c1.blk (by decide))),own_far c1.own j (by decide) hg,c1.le,c1.lo⟩;have E:=h.cur.lo;have G:=h.lt;refine⟨⟨c3.blk.far (by show g≠gb;omega) _,wZ c3.own (fZ c3.own b3 h.tu) _,c3.le,c3.lo⟩,by simpa using b3.set 1 v3,wZ o3 (fZ o3 b3 h.ti) _,?_,?_,?_,h.lt,h.ti,h.tu⟩
 ·rw[Ai,show cZ .i64 (S++ [x])=cZ .i64 S++ [.int .i64 (x:Nat)] by simp[cZ]];exact wZ i (fZ i b3 h.ti) _
 ·intro y hy hh;rcases z with e|e
  ·exact h.ap y hy (by rw[<-e];exact hh)
  ·rw[e]at hh;injection hh with hh;have:=(Ae h.oc y hy).2;have:=hb.size;omega
 ·have hz:=h.kept.size;exact((h.kept.trans (Kept.of_below hb (fun y hy=>by have:=hy.1;omega))).grown hg (fun y hy=>by have:=hy.1;have:=hb.size;omega) (fun y hy hk=>by have:=(Ae h.os y hy).1;have:=hk.1;omega)).set (fun hk=>hk.2 rfl) _
end
end Body
namespace Ef
open Go.RowKit Mem Own Canon Huff NumPut
def BK(W:Nat)(bs:List Bool)(n:Nat):List Nat:=(List.range n).map fun i=>sZ bs (i*W) W
theorem MY(W:Nat)(bs:List Bool)(n:Nat):(BK W bs n).length=n:=by simp[BK]
theorem VO(W:Nat)(bs:List Bool)(n:Nat):BK W bs (n+1)=BK W bs n++ [sZ bs (n*W) W]:=by simp[BK,List.range_succ]
theorem NU(W:Nat)(bs:List Bool)(n:Nat):∀x∈BK W bs n,x<2 ^ W:=by intro x hx;obtain⟨i,_,rfl⟩:=Ep.1 hx;exact DZ _ _ _
def rowN(bound W:Nat)(bs:List Bool):List Nat->Nat->Nat->List Nat->List Nat×Nat×Int
 | [],at_,_,acc=>(acc,at_,0)
 |x :: xs,at_,high,acc=>
  if unE bs at_≠0 then([],at_,unE bs at_)
  else if acc≠ []/\(high+unV bs at_)*2 ^ W+x<=acc.getLast?.getD 0 then([],at_,2)
  else if bound<=(high+unV bs at_)*2 ^ W+x then([],at_,8)
  else rowN bound W bs xs (unA bs at_) (high+unV bs at_) (acc++ [(high+unV bs at_)*2 ^ W+x])
def EK(at_:Nat):Nat:=(8-at_ % 8) % 8
def Fx(bound n:Nat)(bs:List Bool):List Nat×Nat×Int:=
 if bs.length<n*efW bound n then([],0,1)
 else if(rowN bound (efW bound n) bs (BK (efW bound n) bs n) (n*efW bound n) 0 []).2.2≠0 then([],0,(rowN bound (efW bound n) bs (BK (efW bound n) bs n) (n*efW bound n) 0 []).2.2)
 else if sZ bs (rowN bound (efW bound n) bs (BK (efW bound n) bs n) (n*efW bound n) 0 []).2.1 (EK (rowN bound (efW bound n) bs (BK (efW bound n) bs n) (n*efW bound n) 0 []).2.1)≠0 then([],0,2)
 else((rowN bound (efW bound n) bs (BK (efW bound n) bs n) (n*efW bound n) 0 []).1,((rowN bound (efW bound n) bs (BK (efW bound n) bs n) (n*efW bound n) 0 []).2.1+7) / 8,0)
theorem LU{bs:List Bool}{at_:Nat}(h:at_<=bs.length):unA bs at_<=bs.length:=by unfold unA;split<;>omega
theorem Oz(bs:List Bool)(at_:Nat):unV bs at_<=bs.length:=by unfold unV;split<;>omega
theorem PI{bound W:Nat}{bs:List Bool}:∀ (xs:List Nat) (at_ i:Nat) (j:List Nat),at_<=bs.length->(rowN bound W bs xs at_ i j).2.1<=bs.length
 | [],at_,_,_,h=>h
 |x :: xs,at_,i,j,h=>by
  unfold rowN;split
  ·exact h
  ·split
   ·exact h
   ·split
    ·exact h
    ·exact PI xs _ _ _ (LU h)
theorem Px(h x W:Nat)(hx:x<2 ^ W):(h*2 ^ W |||x)=h*2 ^ W+x:=by rw[Nat.mul_comm,Nat.two_pow_add_eq_or_of_lt hx]
end Ef
namespace Ef
open Go.RowKit Mem Own Canon Huff NumPut
def Cc(W:Nat)(bs:List Bool)(n k:Nat):List Value:=(List.range n).map fun i=>Value.int .u16 ((if i<k then sZ bs (i*W) W else 0:Nat):Int)
theorem SV(W:Nat)(bs:List Bool)(n k:Nat):(Cc W bs n k).length=n:=by simp[Cc]
theorem Kg{W:Nat}{bs:List Bool}{n k i:Nat}(h:i<n):(Cc W bs n k)[i]? =some (.int .u16 ((if i<k then sZ bs (i*W) W else 0:Nat):Int)):=by simp[Cc,h]
theorem S6{W:Nat}{bs:List Bool}{n k:Nat}:(Cc W bs n k).toArray.setIfInBounds k (.int .u16 (sZ bs (k*W) W:Nat))=(Cc W bs n (k+1)).toArray:=by
 apply Array.ext_getElem?
 intro i;rw[Gu];by_cases e:k=i
 ·subst e;by_cases hk:k<n
  ·rw[Ab rfl,Ab (by simpa[Cc]using hk)];simp only[List.getElem?_toArray];rw[Kg hk,Ab (by omega)]
  ·rw[Ab rfl,Aa (by simpa[Cc]using hk)];simp[Cc,hk]
 ·rw[Aa e];simp only[List.getElem?_toArray];by_cases hi:i<n
  ·rw[Kg hi,Kg hi];congr 3;by_cases h2:i<k
   ·rw[Ab h2,Ab (by omega)]
   ·rw[Aa h2,Aa (by omega)]
  ·simp[Cc,hi]
theorem PC(W:Nat)(bs:List Bool)(n:Nat):Cc W bs n n=cZ .u16 (BK W bs n):=by unfold Cc BK cZ;rw[List.map_map];apply J1;intro i hi;simp only[Function.comp];rw[Ab (Eo.1 hi)]
theorem TC(W:Nat)(bs:List Bool)(n:Nat):madeCells #[.int .u16 0] n=(Cc W bs n 0).toArray:=by
 apply Array.ext_getElem?
 intro i;by_cases h:i<n
 ·simp[Cc,madeCells,h,Nat.mod_one]
 ·simp[Cc,madeCells,h]
theorem Tp:(Tryz.prog.info? 47).map (fun i=>(i.zero,i.size,i.bytes))=some (some (.int .u16 0),1,2):=by kernel_rfl
theorem S9(n:Nat)(hn:n<=8388608)(w:World):(Instr.makeSlice 200 (.int .i64 (n:Int)) (.int .i64 (n:Int))).run Tryz.prog w=
 .ok (.slice (some ⟨w.heap.size,0,none⟩) n n) (w.alloc (.cells (madeCells #[.int .u16 0] n) 47)):=by
 obtain⟨i0,hi,y,i,j⟩:=info_parts Tp;have h:=run_make (P:=Tryz.prog) w 200 47 i0 (.int .u16 0) Tryz.underlying200 hi y .i64 .i64 (n:Int) (n:Int) (by omega) (Int.le_refl _) (by rw[j];omega) (by omega);simp only[Int.toNat_natCast]at h;simpa[i,Value.cells]using h
def LX(w:World)(lo g:Nat)(bs:List Bool)(n W:Nat)(e:Ending)(w':World):Prop:=
 Kept (fun x=>x<w.heap.size/\x≠g) w w'/\if bs.length<n*W then e= .returned (.tuple #[.slice none 0 0, .int .i64 1])
 else ∃v,e= .returned (.tuple #[v, .int .i64 0])/\w'.ownsRow w.heap.size 47 1 v n (cZ .u16 (BK W bs n))/\Rd w' lo g bs (n*W)
theorem SN(w:World)(lo g:Nat)(bs:List Bool)(n W:Nat)(hn:n<=20000)(hW:W<=14)(U:lo<=g)(hR:Rd w lo g bs 0):
 Calls Tryz.prog 242 #[.pointer (some ⟨g,0,none⟩), .int .i64 (n:Nat), .int .i64 (W:Nat)] w (LX w lo g bs n W):=by
 have aA:=hR.lt;have hz:bs.length<=800000:=by obtain⟨A,n,c,ls,h1,h2,h3,h4,h5,h6,h7⟩:=hR;rw[h5,CX,h3];omega
 have D0:=hid (left_any w lo g bs 0 hR);have HR:=hid hR;have ar:n*W<=280000:=AV (Gq hn hW) (by decide);obtain⟨N,hN⟩:∃N,N=n*W:=⟨_,rfl⟩;have ax:IntKind.i64.wrap ((n:Int)*(W:Int))=(N:Int):=by rw[show(n:Int)*(W:Int)=(N:Int) by rw[hN];simp,Ak _ (by omega)]
 have ai:=S9 n (by omega);rw[TC W bs n]at ai;unfold LX;rw[<-hN]at ar ⊢;have HN:=hid hN;rw[Nat.sub_zero]at D0;clear hR hN;by_cases G:bs.length<N
 ·simp only[if_pos G];have g1:decide ((bs.length:Int)<(N:Int))=true:=by simp;omega
  have ak:decide (bs.length<N)=true:=by simp;omega
  clear G;generalize bs.length=z at *;go_enter Tryz.func242,Tryz.ntmps242;go_wp2_with fail;refine D0.out.mono ?_;rintro e w1 ⟨rfl,q,rfl⟩;go_wp2_with fail;go_ret2;exact⟨(Kept.refl _ _).drewN q,rfl⟩
 ·simp only[if_neg G];have g1:decide ((bs.length:Int)<(N:Int))=false:=by simp;omega
  have ak:decide (bs.length<N)=false:=by simp;omega
  have am:Hid (N<=bs.length):=by show _<=_;omega
  obtain⟨z,L⟩:∃z,z=bs.length:=⟨_,rfl⟩;rw[<-L]at D0 g1 ak hz;clear G L;go_enter Tryz.func242,Tryz.ntmps242;go_wp2_with fail;refine D0.out.mono ?_;rintro e w1 ⟨rfl,q,hq⟩;have au:Hid (Rd w1 lo g bs 0):=by rw[hq];exact HR.out.drewN q
  have an:Hid (Kept (fun x=>x<w.heap.size/\x≠g) w w1):=by rw[hq];exact(Kept.refl _ _).drewN q
  have Z:w1.heap.size=w.heap.size:=by rw[hq];rfl
  clear hq;go_wp2_with fail;have Q:Blk (w1.alloc (.cells (Cc W bs n 0).toArray 47)) w1.heap.size 47 (Cc W bs n 0).toArray:=Blk.made _ _ _;have ab:Hid (Rd (w1.alloc (.cells (Cc W bs n 0).toArray 47)) lo g bs 0):=au.out.keep (fun b hb1 hb2=>BI w1 _ b (by omega)) U;have af:Hid (Kept (fun x=>x<w.heap.size/\x≠g) w (w1.alloc (.cells (Cc W bs n 0).toArray 47))):=an.out.alloc (fun x hx=>by have:=hx.1;omega) _;generalize w1.alloc (.cells (Cc W bs n 0).toArray 47)=w2 at *;have ag:=hid Q;clear Q ai D0;rw[Z]at *;clear Z;generalize M:w.heap.size=b at *;have av:=hid M;clear M;go_loopw [22] (fun iv wr=>∃k:Nat,k<=n/\iv= .int .i64 k/\Hid (Blk wr b 47 (Cc W bs n k).toArray)/\Hid (Rd wr lo g bs (k*W))/\Hid (Kept (fun x=>x<b/\x≠g) w wr)) (fun iv _=>n-(intOf iv).toNat)
  case atStart=>exact⟨0,by omega,rfl,ag.out,by rw[Nat.zero_mul];exact ab.out,af.out⟩
  case round=>
   obtain⟨k,hk,rfl,HB,J,HK⟩:=hrel;clear ag ab af;by_cases ac:k<n
   ·have gk:decide ((k:Int)<(n:Int))=true:=(by simp;omega);have az:decide (k<n)=true:=(by simp;omega);have j:k*W+W<=bs.length:=(by have h1:(k+1)*W<=n*W:=EN W ac;rw[Fh]at h1;have:=HN.out;have:=am.out;omega);have D:=IW wr lo g bs (k*W) W (by omega) J.out;unfold FK FJ FH at D;rw[Ab j,Ab j,Ab j]at D;have hv:sZ bs (k*W) W<2 ^ W:=DZ _ _ _;have ay:sZ bs (k*W) W<16384:=De hv (by have:2 ^ W<=2 ^ 14:=Bu (by omega) hW;omega);have HS:Hid ((Cc W bs n k).toArray.setIfInBounds k (.int .u16 (sZ bs (k*W) W:Nat))=(Cc W bs n (k+1)).toArray):=S6;have ah:k*W+W=(k+1)*W:=(by rw[Fh]);rw[ah]at D;generalize sZ bs (k*W) W=y at *;have aB:IntKind.u16.wrap (y:Int)=(y:Int):=(by rw[IntKind.wrap_u16];omega);have D:=hid D;have x0:(0:Int)<=(k:Int):=(by omega);have x1:(k:Int)<(n:Int):=(by omega);have aa:Hid (∃u,(Cc W bs n k).toArray[k]? =some u):=⟨_,by simp only[List.getElem?_toArray];exact Kg ac⟩;clear j hv ah;go_wp2_with fail;refine D.out.mono ?_;rintro e w3 ⟨rfl,Y,i⟩;have E:Hid (Blk w3 b 47 (Cc W bs n k).toArray):=(i.block b (by omega)).trans HB.out;have ae:Hid (Kept (fun x=>x<b/\x≠g) w w3):=HK.out.trans ⟨i.os,i.tape,i.output,i.size,fun x hx=>i.block x hx.2⟩;have aj:=hid Y;obtain⟨u,hu⟩:=aa.out;have c3:w3.cell? ⟨b,k,none⟩=some u:=(E.out.cell k).trans hu;have f3:=E.out.frozen k;clear Y i HB J HK D hu aa;go_wp2_with fail;have aw:Hid (Blk (w3.setCell ⟨b,k,none⟩ (.int .u16 (y:Nat))) b 47 (Cc W bs n (k+1)).toArray):=(by rw[<-HS.out];exact E.out.set k _);have al:Hid (Rd (w3.setCell ⟨b,k,none⟩ (.int .u16 (y:Nat))) lo g bs ((k+1)*W)):=aj.out.keep (fun x _ hx2=>AK w3 _ _ x (show x≠b by omega)) U;have aq:Hid (Kept (fun x=>x<b/\x≠g) w (w3.setCell ⟨b,k,none⟩ (.int .u16 (y:Nat)))):=ae.out.set (p:=⟨b,k,none⟩) (fun h=>absurd h.1 (by simp)) _;clear E aj ae c3 f3;go_roundw
    case measure=>go_light;simp[intOf];omega
    case rel=>go_light;exact⟨k+1,by omega,by first|rfl|go_num,aw.out,al.out,aq.out⟩
   ·obtain rfl:k=n:=by omega
    have gk:decide ((k:Int)<(k:Int))=false:=(by simp);go_wp2_with fail;go_ret2;rw[av.out];refine⟨HK.out,_,rfl,⟨by rw[<-PC,SV];simp, .inr ⟨b,k,_,rfl,Aj _,HB.out,Aj _,by unfold maxLen;omega,by simp[Cc],?_⟩⟩,by rw[HN.out];exact J.out⟩;rw[<-PC,EM];exact Bv (by simp[Cc])
end Ef
namespace Idx
open Go.RowKit Mem Own Canon Sift
open NumPut Recs Go.Proofs.YtbgoibedicbkjaaGreatDoor Crc Block
open Nums
def toS(ls:List Nat):Str:=ls.map UInt8.ofNat
theorem NH(ls:List Nat):ED ls=bs (toS ls):=rfl
def nxN(ls:List Nat)(was:Str)(first:Bool)(at_:Nat):Nat:=if first then 0 else xZ was.length ls at_ 0
def nxA(ls:List Nat)(was:Str)(first:Bool)(at_:Nat):Nat:=if first then at_ else mZ was.length ls at_ 0
def nxE(ls:List Nat)(was:Str)(first:Bool)(at_:Nat):Int:=if first then 0 else oZ was.length ls at_ 0
def nxS(was:Str)(first:Bool)(n:Nat)(t:Str)(a:Nat)(e:Int):Str×Nat×Int:=
 if e≠0 then([],a,e)else if t= []∨Bm was (was.take n++t)=false∨(first=false/\Bj was (was.take n++t)≠n)then(was.take n++t,a,2)else(was.take n++t,a,0)
def Et(ls:List Nat)(was:Str)(first:Bool)(at_:Nat):Str×Nat×Int:=
 nxS was first (nxN ls was first at_) (toS (CO 25 ls (nxA ls was first at_) (nxE ls was first at_))) (Cp 25 ls (nxA ls was first at_) (nxE ls was first at_)) (Co 25 ls (nxA ls was first at_) (nxE ls was first at_))
theorem LW(s:Str)(n:Nat)(hn:n<=s.length)(w:World):(Instr.slice 9 (.string (bs s)) none (some (.int .i64 (n:Int))) none).run Tryz.prog w= .ok (.string (bs (s.take n))) w:=by
 have hz:=Cy s;rw[run_slice_string_h w (t:=9) (s:=bs s) (ht:=Tryz.underlying9) .i64 (n:Int) (by omega) (by omega),Cl];have e:(bs s).extract 0 n=bs (s.take n):=by refine ByteArray.ext (Array.ext' ?_);rw[WE,Hk,GU,Nat.sub_zero];rfl
 rw[e]
theorem LP(a b:Str):bs a++bs b=bs (a++b):=by refine ByteArray.ext (Array.ext' ?_);simp[bs]
theorem Ss{most:Nat}{ls:List Nat}(h8:∀x∈ls,x<=255)(at_:Nat)(er:Int):(CO most ls at_ er).length<=most:=by
 unfold CO;split
 ·exact AY _
 ·exact(Kt most (ls.drop at_) fun x hx=>h8 x (Bb hx)).1
theorem Sx(w:World)(g base:Nat)(ls:List Nat)(A:Option Addr)(c at_:Nat)(i:Str)(first:Bool)(ai:ls.length<=100000)(h8:∀x∈ls,x<=255)(aE:i.length<=25)(h:Cur w g base ls A c at_ 0):
 Calls Tryz.prog 207 #[.pointer (some ⟨g,0,none⟩), .string (bs i), .bool first] w fun e w'=>e= .returned (.string (bs (Et ls i first at_).1))/\Cur w' g base ls A c (Et ls i first at_).2.1 (Et ls i first at_).2.2/\Kept (uZ g w) w w':=by
 have hz:=Cy i;have aI:=h.blk.lt;obtain⟨R,hR⟩:∃R,R=Et ls i first at_:=⟨_,rfl⟩;rw[<-hR];unfold Et at hR;have D1:=hid (fun wx hx=>Hi wx g base ls A c at_ 0 i.length ai h8 (by omega) hx)
 have hn:nxN ls i first at_<=i.length:=by
  unfold nxN;split
  ·exact AY _
  ·exact Cs h8 _ _
 have D2:=hid (fun wx hx=>M1 wx g base ls A c (nxA ls i first at_) (nxE ls i first at_) 25 ai h8 (by omega) hx);have ak:=Ss (most:=25) h8 (nxA ls i first at_) (nxE ls i first at_);rw[NH]at D2
 have HN:Hid ((first=true->nxN ls i first at_=0/\nxA ls i first at_=at_/\nxE ls i first at_=0)/\(first=false->nxN ls i first at_=xZ i.length ls at_ 0/\nxA ls i first at_=mZ i.length ls at_ 0/\nxE ls i first at_=oZ i.length ls at_ 0)):=by
  constructor
  ·intro hf;subst hf;exact⟨rfl,rfl,rfl⟩
  ·intro hf;subst hf;exact⟨rfl,rfl,rfl⟩
 generalize nxN ls i first at_=n at *;generalize nxA ls i first at_=a1 at *;generalize nxE ls i first at_=e1 at *;obtain⟨t,ht⟩:∃t,t=toS (CO 25 ls a1 e1):=⟨_,rfl⟩;have ax:t.length<=25:=by rw[ht];unfold toS;rw[BN];exact ak
 rw[<-ht]at D2 hR;generalize Cp 25 ls a1 e1=a2 at *;generalize Co 25 ls a1 e1=e2 at *;have H:=hid h;unfold nxS at hR;clear h h8 ai ht ak;have KH:=fun wx=>LW i n hn wx;have aC:(i.take n).length<=25:=by rw[AO];omega
 obtain⟨s,hs⟩:∃s,s=i.take n++t:=⟨_,rfl⟩;have aF:s.length<=50:=by rw[hs,Ai];omega
 have HS:=hid hs;rw[<-hs]at hR;have av:Hid (bs (i.take n)++bs t=bs s):=by show _=_;rw[LP,hs]
 have HH:Hid (n=0->i.take n= []):=fun h=>by rw[h];rfl
 have HR:=hid hR;clear hR;have DM:=hid (fun wx=>RV wx i s);have DA:=hid (fun wx=>SU wx i s (by omega) (by omega));have HT:Hid ((t= []->((bs t).toList==({data:=#[] }:ByteArray).toList)=true/\((bs t).toList== [])=true/\(bs t).toList.isEmpty=true/\(bs t).toList= [])/\(t≠ []->((bs t).toList==({data:=#[] }:ByteArray).toList)=false/\((bs t).toList== [])=false/\(bs t).toList.isEmpty=false/\¬(bs t).toList= [])):=⟨fun h=>by rw[h];exact Ma,fun h=>Mi t h⟩;generalize i.take n=hd at *;have ag:=hid (Cy hd);have ae:=hid (Cy t);obtain⟨aH,an⟩:∃x,x=hd.length:=⟨_,rfl⟩;obtain⟨tl,af⟩:∃x,x=t.length:=⟨_,rfl⟩;rw[<-an]at ag aC;rw[<-af]at ae ax;clear hs an af;have HF:Hid (Dv 0 2=2):=Ab rfl;cases first with
 |true=>
  obtain⟨q1,q2,q3⟩:=HN.out.1 rfl;have ac:Hid (Cur w g base ls A c a1 e1):=by rw[q2,q3];exact H.out
  have aa:Hid (Kept (uZ g w) w w):=Kept.refl _ _;have au:=HH.out q1;have ar:s=t:=by rw[HS.out,au];rfl
  have aD:bs t=bs s:=by rw[ar]
  rw[aD]at HT ae;have z2:=ae.out;clear ar;clear q2 q3 HN H D1 av HH ag au KH HS;subst q1;go_enter Tryz.func207,Tryz.ntmps207;go_wp2_with fail;refine(D2.out _ ac.out).mono ?_;rintro e w2 ⟨rfl,Z,J⟩;have N:Hid (Kept (uZ g w) w w2):=aa.out.trans ⟨J.os,J.tape,J.output,J.size,fun x hx=>J.block x ⟨De hx.1 aa.out.size,hx.2⟩⟩;have DE:=hid (CI w2 g base ls A c a2 e2 Z);have L:=hid Z;clear Z J ac aa D2;go_wp2_with fail;refine DE.out.mono ?_;rintro e aB ⟨rfl,rfl⟩;by_cases he:e2=0
  ·skip
   subst he;rw[Aa (show ¬((0:Int)≠0) from fun h=>h rfl)]at HR;clear DE;by_cases ht:t= []
   ·obtain⟨b1,b2,b3,b4⟩:=HT.out.1 ht;have z:Hid (R=(s,a2,2)):=(by have h:=HR.out;rw[Ab (.inl ht)]at h;exact h);clear ht HT;have E:=L;have G:=N;go_wp2_with fail;refine(FT _ g base ls A c a2 0 2 E.out).mono ?_;rintro e w5 ⟨rfl,y,j⟩;rw[HF.out]at y;have U:=hid y;have Q:Hid (Kept (uZ g w) w w5):=G.out.trans ⟨j.os,j.tape,j.output,j.size,fun x hx=>j.block x hx.2⟩;clear y j E G;go_wp2_with fail;go_ret;rw[z.out];exact⟨rfl,U.out,Q.out⟩
   ·have aj:=hid ht;obtain⟨b1,b2,b3,b4⟩:=HT.out.2 ht;clear ht HT;obtain⟨M,hM⟩:∃M,M=Bm i s:=⟨_,rfl⟩;rw[<-hM]at DM;have HM:=hid hM;clear hM;by_cases Y:M=false
    ·have z:Hid (R=(s,a2,2)):=(by have h:=HR.out;rw[Ab (.inr (.inl (HM.out.symm.trans Y)))]at h;exact h);subst Y;go_wp2_with fail;refine(DM.out _).mono ?_;rintro e w3 ⟨rfl,rfl⟩;have E:=L;have G:=N;go_wp2_with fail;refine(FT _ g base ls A c a2 0 2 E.out).mono ?_;rintro e w5 ⟨rfl,y,j⟩;rw[HF.out]at y;have U:=hid y;have Q:Hid (Kept (uZ g w) w w5):=G.out.trans ⟨j.os,j.tape,j.output,j.size,fun x hx=>j.block x hx.2⟩;clear y j E G;go_wp2_with fail;go_ret;rw[z.out];exact⟨rfl,U.out,Q.out⟩
    ·have ah:M=true:=(by cases M with|true=>rfl|false=>exact absurd rfl Y);clear Y;subst ah;go_wp2_with fail;refine(DM.out _).mono ?_;rintro e w3 ⟨rfl,rfl⟩;have z:Hid (R=(s,a2,0)):=(by have h:=HR.out;rw[Aa (fun h=>h.elim aj.out (fun h=>h.elim (by rw[<-HM.out];decide) (fun h=>by cases h.1)))]at h;exact h);go_wp2_with fail;go_ret;rw[z.out];exact⟨rfl,L.out,N.out⟩
  ·have gE:(e2 != 0)=true:=(by simpa using he);have z:Hid (R=([],a2,e2)):=(by have h:=HR.out;rw[Ab he]at h;exact h);clear he HR HT;go_wp2_with fail;go_ret;rw[z.out];exact⟨rfl,L.out,N.out⟩
 |false=>
  obtain⟨q1,q2,q3⟩:=HN.out.2 rfl;rw[<-q1,<-q2,<-q3]at D1;have z1:=ag.out;have z2:=ae.out;have aG:=av.out;clear q1 q2 q3 HN HH;go_enter Tryz.func207,Tryz.ntmps207;go_wp2_with fail;refine(D1.out _ H.out).mono ?_;rintro e w1 ⟨rfl,aq,am⟩;have ac:=hid aq;have aa:=hid am;clear aq am H D1;go_wp2_with fail;refine(D2.out _ ac.out).mono ?_;rintro e w2 ⟨rfl,Z,J⟩;have N:Hid (Kept (uZ g w) w w2):=aa.out.trans ⟨J.os,J.tape,J.output,J.size,fun x hx=>J.block x ⟨De hx.1 aa.out.size,hx.2⟩⟩;have DE:=hid (CI w2 g base ls A c a2 e2 Z);have L:=hid Z;clear Z J ac aa D2;go_wp2_with fail;refine DE.out.mono ?_;rintro e aB ⟨rfl,rfl⟩;by_cases he:e2=0
  ·skip
   subst he;rw[Aa (show ¬((0:Int)≠0) from fun h=>h rfl)]at HR;clear DE;by_cases ht:t= []
   ·obtain⟨b1,b2,b3,b4⟩:=HT.out.1 ht;have z:Hid (R=(s,a2,2)):=(by have h:=HR.out;rw[Ab (.inl ht)]at h;exact h);clear ht HT;have E:=L;have G:=N;go_wp2_with fail;refine(FT _ g base ls A c a2 0 2 E.out).mono ?_;rintro e w5 ⟨rfl,y,j⟩;rw[HF.out]at y;have U:=hid y;have Q:Hid (Kept (uZ g w) w w5):=G.out.trans ⟨j.os,j.tape,j.output,j.size,fun x hx=>j.block x hx.2⟩;clear y j E G;go_wp2_with fail;go_ret;rw[z.out];exact⟨rfl,U.out,Q.out⟩
   ·have aj:=hid ht;obtain⟨b1,b2,b3,b4⟩:=HT.out.2 ht;clear ht HT;obtain⟨M,hM⟩:∃M,M=Bm i s:=⟨_,rfl⟩;rw[<-hM]at DM;have HM:=hid hM;clear hM;by_cases Y:M=false
    ·have z:Hid (R=(s,a2,2)):=(by have h:=HR.out;rw[Ab (.inr (.inl (HM.out.symm.trans Y)))]at h;exact h);subst Y;go_wp2_with fail;refine(DM.out _).mono ?_;rintro e w3 ⟨rfl,rfl⟩;have E:=L;have G:=N;go_wp2_with fail;refine(FT _ g base ls A c a2 0 2 E.out).mono ?_;rintro e w5 ⟨rfl,y,j⟩;rw[HF.out]at y;have U:=hid y;have Q:Hid (Kept (uZ g w) w w5):=G.out.trans ⟨j.os,j.tape,j.output,j.size,fun x hx=>j.block x hx.2⟩;clear y j E G;go_wp2_with fail;go_ret;rw[z.out];exact⟨rfl,U.out,Q.out⟩
    ·have ah:M=true:=(by cases M with|true=>rfl|false=>exact absurd rfl Y);clear Y;subst ah;go_wp2_with fail;refine(DM.out _).mono ?_;rintro e w3 ⟨rfl,rfl⟩;by_cases ab:Bj i s=n
     ·have ay:((Bj i s:Int) != (n:Int))=false:=(by rw[ab];simp);have az:=hid ab;clear ab;go_wp2_with fail;refine(DA.out _).mono ?_;rintro e w4 ⟨rfl,q,hq⟩;have aA:Hid (Cur w4 g base ls A c a2 0):=(by rw[hq];exact L.out.drewN q);have aw:Hid (Kept (uZ g w) w w4):=(by rw[hq];exact N.out.drewN q);have z:Hid (R=(s,a2,0)):=(by have h:=HR.out;rw[Aa (fun h=>h.elim aj.out (fun h=>h.elim (by rw[<-HM.out];decide) (fun h=>h.2 az.out)))]at h;exact h);clear hq DM DA L N;generalize Bj i s=al at *;go_wp2_with fail;go_ret;rw[z.out];exact⟨rfl,aA.out,aw.out⟩
     ·have ay:((Bj i s:Int) != (n:Int))=true:=(by rw[bne_iff_ne];omega);have z:Hid (R=(s,a2,2)):=(by have h:=HR.out;rw[Ab (.inr (.inr ⟨trivial,ab⟩))]at h;exact h);clear ab;go_wp2_with fail;refine(DA.out _).mono ?_;rintro e w3 ⟨rfl,q,hq⟩;have E:Hid (Cur w3 g base ls A c a2 0):=(by rw[hq];exact L.out.drewN q);have G:Hid (Kept (uZ g w) w w3):=(by rw[hq];exact N.out.drewN q);clear hq DM DA L N;generalize Bj i s=al at *;go_wp2_with fail;refine(FT _ g base ls A c a2 0 2 E.out).mono ?_;rintro e w5 ⟨rfl,y,j⟩;rw[HF.out]at y;have U:=hid y;have Q:Hid (Kept (uZ g w) w w5):=G.out.trans ⟨j.os,j.tape,j.output,j.size,fun x hx=>j.block x hx.2⟩;clear y j E G;go_wp2_with fail;go_ret;rw[z.out];exact⟨rfl,U.out,Q.out⟩
  ·have gE:(e2 != 0)=true:=(by simpa using he);have z:Hid (R=([],a2,e2)):=(by have h:=HR.out;rw[Ab he]at h;exact h);clear he HR HT;go_wp2_with fail;go_ret;rw[z.out];exact⟨rfl,L.out,N.out⟩
end Idx
namespace Idx
open Go.RowKit Mem Own Canon Sift
open NumPut Recs Go.Proofs.YtbgoibedicbkjaaGreatDoor Crc Block
open Nums
def BY(ls:List Nat):Nat->Bool->Nat->List Str->List Str×Int
 |0,_,at_,acc=>(acc,Ez ls at_ 0)
 |k+1,first,at_,acc=>
  if(Et ls (acc.getLast?.getD []) first at_).2.2≠0 then([],(Et ls (acc.getLast?.getD []) first at_).2.2)
  else BY ls k false (Et ls (acc.getLast?.getD []) first at_).2.1 (acc++ [(Et ls (acc.getLast?.getD []) first at_).1])
theorem Sw{a s:Str}(h:Bm a s=true):s.length<=25:=by unfold Bm at h;simp at h;exact h.2.1
theorem Y0{ls:List Nat}{i:Str}{first:Bool}{at_:Nat}(h:(Et ls i first at_).2.2=0):(Et ls i first at_).1.length<=25:=by
 unfold Et nxS at *;split at h
 ·rename_i he;exact absurd h he
 ·rename_i he;rw[Aa he];split at h
  ·cases h
  ·rename_i hn;rw[Aa hn]
   have hm:Bm i (List.take (nxN ls i first at_) i++toS (CO 25 ls (nxA ls i first at_) (nxE ls i first at_)))=true:=by
    cases hb:Bm i (List.take (nxN ls i first at_) i++toS (CO 25 ls (nxA ls i first at_) (nxE ls i first at_)))with
    |true=>rfl
    |false=>exact absurd (.inr (.inl hb)) hn
   exact Sw hm
structure DAt (w:World) (base gd size:Nat) (ts hs:List Str) (vT vH:Value):Prop where
 blk:Blk w gd 222 #[vT, .int .i64 (size:Nat),vH]
 ot:w.ownsRow base 9 1 vT ts.length (tZ ts)
 oh:w.ownsRow base 9 1 vH hs.length (tZ hs)
 apart:∀y,vT.ownBlock=some y->vH.ownBlock≠some y
 gb:base<=gd
section
variable {w w1 w3 w':World} {base gd size g:Nat} {ts hs:List Str} {vT vH v3:Value} {s:Str}
theorem DAt.keep(h:DAt w base gd size ts hs vT vH)(hk:∀y,base<=y->y<w.heap.size->w'.heap[y]? =w.heap[y]?):DAt w' base gd size ts hs vT vH:=
 ⟨(hk gd h.gb h.blk.lt).trans h.blk,dZ h.ot (fun y hy=>hk y (Ae h.ot y hy).1 (Ae h.ot y hy).2),dZ h.oh (fun y hy=>hk y (Ae h.oh y hy).1 (Ae h.oh y hy).2),h.apart,h.gb⟩
theorem DAt.oth(h:DAt w base gd size ts hs vT vH){cs:Array Value}(hc:Blk w g 136 cs)(hk:Kept (fun y=>y<w.heap.size/\y≠g) w w'):DAt w' base gd size ts hs vT vH:=
 ⟨(hk.block gd ⟨h.blk.lt,Blk.apart h.blk hc (by decide)⟩).trans h.blk,dZ h.ot (fun y hy=>hk.block y ⟨(Ae h.ot y hy).2,fun e=>fZ h.ot hc (by decide) (e ▸ hy)⟩),dZ h.oh (fun y hy=>hk.block y ⟨(Ae h.oh y hy).2,fun e=>fZ h.oh hc (by decide) (e ▸ hy)⟩),h.apart,h.gb⟩
theorem DAt.texts(h:DAt w base gd size ts hs vT vH)(hb:Below w.heap.size w w1)(hg:w1.grownBy w3 vT.ownBlock)(i:w3.ownsRow base 9 1 v3 (ts.length+1) (tZ ts++ [.string (bs s)]))(j:v3.ownBlock=vT.ownBlock∨v3.ownBlock=some w1.heap.size):
 DAt (w3.setCell ⟨gd,0,none⟩ v3) base gd size (ts++ [s]) hs v3 vH:=by
 have z:vT.ownBlock≠some gd:=fZ h.ot h.blk (by decide);have b3:=(h.blk.step hb).grown hg (Bg z);have o1:w1.ownsRow base 9 1 vH hs.length (tZ hs):=dZ h.oh (fun y hy=>hb.block y (Ae h.oh y hy).2);have o3:w3.ownsRow base 9 1 vH hs.length (tZ hs):=dZ o1 (fun y hy=>hg.block y (Ae o1 y hy).2 (fun e=>h.apart y e.symm hy));have n3:v3.ownBlock≠some gd:=fZ i b3 (by decide);have nh:vH.ownBlock≠some gd:=fZ o3 b3 (by decide);refine⟨by simpa using b3.set 0 v3,?_,dZ o3 (fun y hy=>AK _ _ _ y (fun e=>nh (by rw[hy,e]))),?_,h.gb⟩
 ·rw[Ai,I8];exact dZ i (fun y hy=>AK _ _ _ y (fun e=>n3 (by rw[hy,e])))
 ·intro y hy hh;rcases j with e|e
  ·exact h.apart y (by rw[<-e];exact hy) hh
  ·rw[e]at hy;injection hy with hy;have:=(Ae h.oh y hh).2;have:=hb.size;omega
theorem DAt.heads(h:DAt w base gd size ts hs vT vH)(hb:Below w.heap.size w w1)(hg:w1.grownBy w3 vH.ownBlock)(i:w3.ownsRow base 9 1 v3 (hs.length+1) (tZ hs++ [.string (bs s)]))(j:v3.ownBlock=vH.ownBlock∨v3.ownBlock=some w1.heap.size):
 DAt (w3.setCell ⟨gd,2,none⟩ v3) base gd size ts (hs++ [s]) vT v3:=by
 have z:vH.ownBlock≠some gd:=fZ h.oh h.blk (by decide);have b3:=(h.blk.step hb).grown hg (Bg z);have o1:w1.ownsRow base 9 1 vT ts.length (tZ ts):=dZ h.ot (fun y hy=>hb.block y (Ae h.ot y hy).2);have o3:w3.ownsRow base 9 1 vT ts.length (tZ ts):=dZ o1 (fun y hy=>hg.block y (Ae o1 y hy).2 (fun e=>h.apart y hy e.symm));have n3:v3.ownBlock≠some gd:=fZ i b3 (by decide);have nh:vT.ownBlock≠some gd:=fZ o3 b3 (by decide);refine⟨by simpa using b3.set 2 v3,dZ o3 (fun y hy=>AK _ _ _ y (fun e=>nh (by rw[hy,e]))),?_,?_,h.gb⟩
 ·rw[Ai,I8];exact dZ i (fun y hy=>AK _ _ _ y (fun e=>n3 (by rw[hy,e])))
 ·intro y hy hh;rcases j with e|e
  ·exact h.apart y hy (by rw[<-e];exact hh)
  ·rw[e]at hh;injection hh with hh;have:=(Ae h.ot y hy).2;have:=hb.size;omega
theorem Sg{j:List Nat}{A:Option Addr}{c at_ ob:Nat}{er:Int}{cs:Array Value}(h:Cur w g base j A c at_ er)(i:Blk w ob 222 cs)(k:Nat)(u:Value):Cur (w.setCell ⟨ob,k,none⟩ u) g base j A c at_ er:=
 ⟨h.blk.far (fun e=>Blk.apart i h.blk (by decide) e.symm) _,wZ h.own (fZ h.own i (by decide)) _,h.le,h.lo⟩
theorem cur_far{j:List Nat}{A:Option Addr}{c at_ n i:Nat}{er:Int}{v:Value}{xs:List Value}(h:Cur w g base j A c at_ er)(ho:w.ownsRow i 9 1 v n xs)(hg:w.grownBy w' v.ownBlock):Cur w' g base j A c at_ er:=
 ⟨h.blk.grown hg (Bg (fZ ho h.blk (by decide))),dZ h.own (fun y hy=>hg.block y (Ae h.own y hy).2 (fun e2=>by
  rcases EJ ho h.own (by decide)with e3|e3
  ·rw[e3]at e2;cases e2
  ·exact e3 (by rw[<-e2,hy]))),h.le,h.lo⟩
end
theorem Po:(Tryz.prog.info? 9).map (fun i=>(i.zero,i.size,i.bytes))=some (some (.string ⟨#[]⟩),1,16):=by kernel_rfl
def GI(w:World)(gd:Nat)(vT vH:Value)(y:Nat):Prop:=y<w.heap.size/\y≠gd/\vT.ownBlock≠some y/\vH.ownBlock≠some y
structure FI (w wr:World) (g:Nat) (B:Option Addr) (d:Nat) (ls:List Nat) (base gd size:Nat) (vT vH:Value) (at_:Nat) (t2 h2:List Str) (uT uH:Value):Prop where
 cur:Cur wr g w.heap.size ls B d at_ 0
 dat:DAt wr base gd size t2 h2 uT uH
 kept:Kept (GI w gd vT vH) w wr
 lt:∀y,y<w.heap.size->uT.ownBlock=some y->vT.ownBlock=some y
 lh:∀y,y<w.heap.size->uH.ownBlock=some y->vH.ownBlock=some y
section
variable {w wr w5:World} {g d base gd size at_:Nat} {B:Option Addr} {ls:List Nat} {vT vH uT uH v5:Value} {t2 h2:List Str} {s:Str} {o:Obj}
theorem FI.next{w2:World}{a2:Nat}(h:FI w wr g B d ls base gd size vT vH at_ t2 h2 uT uH)(hg:w.heap.size<=g)(j:Cur w2 g w.heap.size ls B d a2 0)(i:Kept (uZ g wr) wr w2):FI w w2 g B d ls base gd size vT vH a2 t2 h2 uT uH:=
 have hz:=h.kept.size
 ⟨j,h.dat.oth h.cur.blk i,h.kept.trans ⟨i.os,i.tape,i.output,i.size,fun y hy=>i.block y ⟨by have:=hy.1;omega,fun e=>by have:=hy.1;omega⟩⟩,h.lt,h.lh⟩
theorem FI.texts(h:FI w wr g B d ls base gd size vT vH at_ t2 h2 uT uH)(hg:(wr.alloc o).grownBy w5 uT.ownBlock)(i:w5.ownsRow base 9 1 v5 (t2.length+1) (tZ t2++ [.string (bs s)]))(j:v5.ownBlock=uT.ownBlock∨v5.ownBlock=some (wr.alloc o).heap.size):
 FI w (w5.setCell ⟨gd,0,none⟩ v5) g B d ls base gd size vT vH at_ (t2++ [s]) h2 v5 uH:=by
 have hz:=h.kept.size;have hb:Below wr.heap.size wr (wr.alloc o):=bZ (Ag _ _);have hD:=h.dat.texts hb hg i j;have b5:Blk w5 gd 222 #[uT, .int .i64 (size:Nat),uH]:=(h.dat.blk.step hb).grown hg (Bg (fZ h.dat.ot h.dat.blk (by decide)));refine⟨Sg (cur_far (h.cur.step hb) (h.dat.ot.alloc o) hg) b5 0 _,hD,?_,?_,h.lh⟩
 ·exact((h.kept.alloc (fun y hy=>by have:=hy.1;omega) o).grown hg (fun y hy=>by have:=hy.1;simp;omega) (fun y hy hk=>hk.2.2.1 (h.lt y hk.1 hy))).set (fun hk=>hk.2.1 rfl) _
 ·intro y hy he;rcases j with e|e
  ·exact h.lt y hy (by rw[<-e];exact he)
  ·rw[e]at he;injection he with he;simp at he;omega
theorem FI.heads(h:FI w wr g B d ls base gd size vT vH at_ t2 h2 uT uH)(hg:(wr.alloc o).grownBy w5 uH.ownBlock)(i:w5.ownsRow base 9 1 v5 (h2.length+1) (tZ h2++ [.string (bs s)]))(j:v5.ownBlock=uH.ownBlock∨v5.ownBlock=some (wr.alloc o).heap.size):
 FI w (w5.setCell ⟨gd,2,none⟩ v5) g B d ls base gd size vT vH at_ t2 (h2++ [s]) uT v5:=by
 have hz:=h.kept.size;have hb:Below wr.heap.size wr (wr.alloc o):=bZ (Ag _ _);have hD:=h.dat.heads hb hg i j;have b5:Blk w5 gd 222 #[uT, .int .i64 (size:Nat),uH]:=(h.dat.blk.step hb).grown hg (Bg (fZ h.dat.oh h.dat.blk (by decide)));refine⟨Sg (cur_far (h.cur.step hb) (h.dat.oh.alloc o) hg) b5 2 _,hD,?_,h.lt,?_⟩
 ·exact((h.kept.alloc (fun y hy=>by have:=hy.1;omega) o).grown hg (fun y hy=>by have:=hy.1;simp;omega) (fun y hy hk=>hk.2.2.2 (h.lh y hk.1 hy))).set (fun hk=>hk.2.1 rfl) _
 ·intro y hy he;rcases j with e|e
  ·exact h.lh y hy (by rw[<-e];exact he)
  ·rw[e]at he;injection he with he;simp at he;omega
end
def YL(w:World)(base gd size:Nat)(vT vH:Value)(F:List Str×Int)(e:Ending)(w':World):Prop:=
 e= .returned (.int .i64 F.2)/\Kept (GI w gd vT vH) w w'/\(F.2=0->(∀s∈F.1,s.length<=25)/\∃hs' vT' vH',DAt w' base gd size F.1 hs' vT' vH'/\(∀y,y<w.heap.size->vT'.ownBlock=some y->vT.ownBlock=some y)/\(∀y,y<w.heap.size->vH'.ownBlock=some y->vH.ownBlock=some y)/\hs'.length<=F.1.length)
theorem R5(w:World)(A:Option Addr)(m c n base gd size:Nat)(ls:List Nat)(ts hs:List Str)(vT vH:Value)(hm:ls.length=m)(aW:m<=100000)(h8:∀x∈ls,x<=255)(aF:A=none->m=0/\c=0)(ha:Row w w.heap.size A m 1 (iZ .u8 ls))(hn:n<=64)(hD:DAt w base gd size ts hs vT vH)(aY:∀s∈ts,s.length<=25)(bf:ts.length<=1100000)(a4:hs.length<=ts.length):
 Calls Tryz.prog 168 #[.pointer (some ⟨gd,0,none⟩), .slice A m c, .int .i64 (n:Nat)] w (YL w base gd size vT vH (BY ls n true 0 ts)):=by
 obtain⟨j0,aw,av,au,aq⟩:=info_parts Po;have D0:=hid (new_any w A m c ls hm aW aF ha);have aG:ls.length<=100000:=by omega
 have H8:=hid h8;have bc:=hid aG;obtain⟨F,hF⟩:∃F,F=BY ls n true 0 ts:=⟨_,rfl⟩;rw[<-hF];have aX:Hid (BY ls (n-0) (decide (0=0)) 0 ts=F):=hF.symm;have HD:=hid hD;have a9:=hid aY;have bk:=hD.blk.lt;clear hm aF ha h8 aW aG hF hD aY;go_enter Tryz.func168,Tryz.ntmps168;go_wp2_with fail;refine D0.out.mono ?_;rintro e w1 ⟨g,B,d,rfl,aB,aD⟩;have z1:=aD.size;have aH:=aB.lo;have bl:=aB.blk.lt;have aT:=hid aB;have aS:Hid (DAt w1 base gd size ts hs vT vH):=HD.out.keep (fun y _ hy=>aD.block y hy);have aQ:Hid (Kept (GI w gd vT vH) w w1):=Kept.of_below aD (fun y hy=>hy.1);clear aB aD D0 HD;go_wp2_with fail;go_loopw [15] (fun iv wr=>∃ (i at_:Nat) (t2 h2:List Str) (uT uH:Value),i<=n/\iv= .int .i64 i/\t2.length<=1100000+i/\h2.length<=t2.length/\Hid (FI w wr g B d ls base gd size vT vH at_ t2 h2 uT uH)/\Hid (∀s∈t2,s.length<=25)/\Hid (BY ls (n-i) (decide (i=0)) at_ t2=F)) (fun iv _=>n-(intOf iv).toNat)
 case atStart=>exact⟨0,0,ts,hs,vT,vH,by omega,rfl,by omega,a4,⟨aT.out,aS.out,aQ.out,fun _ _ h=>h,fun _ _ h=>h⟩,a9.out,aX.out⟩
 case round=>
  obtain⟨i,at_,t2,h2,uT,uH,hi,rfl,a8,aA,HI,ar,HG⟩:=hrel;have zr:=HI.out.kept.size;clear aT aS aQ aX;by_cases bg:i<n
  ·have gi:decide ((i:Int)<(n:Int))=true:=(by simp;omega);have bm:decide (i<n)=true:=(by simp;omega);have hG:=HG.out;rw[show n-i=(n-(i+1))+1 by omega,BY]at hG;obtain⟨fb,aE⟩:∃fb,fb=decide (i=0):=⟨_,rfl⟩
   have gz:((i:Int)==0)=fb:=by
    rw[aE];by_cases h:i=0
    ·subst h;rfl
    ·rw[Az h,Dd];omega
   obtain⟨aa,am⟩:∃aa,aa=t2.getLast?.getD []:=⟨_,rfl⟩
   have aR:aa.length<=25:=by
    rw[am];cases hl:t2.getLast? with
    |none=>exact AY _
    |some y=>exact ar.out y (List.mem_of_getLast? hl)
   rw[<-aE,<-am]at hG;have DN:=hid (fun wx hx=>Sx wx g w.heap.size ls B d at_ aa fb bc.out H8.out aR hx);have ak:Hid ((Et ls aa fb at_).2.2=0->(Et ls aa fb at_).1.length<=25):=Y0;generalize Et ls aa fb at_=S at *;obtain⟨s,a2,e2⟩:=S;simp only at hG DN ak;have ab:=hid hG;have bj:=hid aE;have aI:=hid am;have c0:=HI.out.dat.blk.cell 0;simp only[List.getElem?_toArray,List.getElem?_cons_zero]at c0;have an:=HI.out.dat.ot;obtain⟨p,hp⟩:∃p,p=t2.length:=⟨_,rfl⟩;rw[<-hp]at an a8 aA;obtain⟨Au,cu,rfl⟩:=aZ an;have HP:=hid hp;have aC:=hid an;have be:=HI.out.dat.blk.lt;have bh:base<=wr.heap.size:=(by have:=HI.out.dat.gb;omega);clear hG HG aE am hp an aR;by_cases aK:p=0
   ·have gp:decide ((0:Int)<(p:Int))=false:=(by simp;omega);have aP:decide (0<p)=false:=(by simp;omega);have a7:aa= []:=(by rw[aI.out,FF (HP.out.symm.trans aK)];rfl);subst a7;have aU:Hid (∀wx,Cur wx g w.heap.size ls B d at_ 0->Calls Tryz.prog 207 #[.pointer (some ⟨g,0,none⟩), .string ⟨#[]⟩, .bool fb] wx fun e w'=>e= .returned (.string (bs s))/\Cur w' g w.heap.size ls B d a2 e2/\Kept (uZ g wx) wx w'):=DN.out;clear DN aK;go_wp2_with fail;refine(aU.out _ HI.out.cur).mono ?_;rintro e w2 ⟨rfl,ag,z⟩;clear aU;have aN:=HI.out.cur.blk;have z2:=z.size;have ai:=hid (fun he:e2=0=>HI.out.next aH (he ▸ ag) z);have aL:Hid (Kept (GI w gd vT vH) w w2):=HI.out.kept.trans ⟨z.os,z.tape,z.output,z.size,fun y hy=>z.block y ⟨by have:=hy.1;omega,fun e=>by have:=hy.1;omega⟩⟩;have DE:=hid (CI w2 g w.heap.size ls B d a2 e2 ag);clear ag z HI c0 aN aC;go_wp2_with fail;refine DE.out.mono ?_;rintro e w3 ⟨rfl,rfl⟩;by_cases he:e2=0
    ·subst he;have G:=ai.out rfl;have ac:=hid G;have hG:=ab.out;rw[Aa (show ¬((0:Int)≠0) from fun h=>h rfl)]at hG;have az:=hid hG;have af:=hid (ak.out rfl);have k0:=G.dat.blk.cell 0;simp only[List.getElem?_toArray,List.getElem?_cons_zero]at k0;have Q:=G.dat.ot;rw[<-HP.out]at Q;have N:=hid Q;have aV:base<=w3.heap.size:=(by omega);have kf:=G.dat.blk.frozen 0;have kb:=G.dat.blk;have ay:=Bg (fZ G.dat.ot G.dat.blk (by decide):_≠some gd);have al:=hid kb;have Y:=hid ay;clear G hG ab ak ai DE Q kf kb ay;cases fb with
     |false=>
      go_wp2_with(at_builtin;refine gZ rfl (.tmp 54) (.tmp 56) 33 rfl base 9 j0 _ 1 16 Tryz.underlying33 aw av au aq rfl (by decide) _ _ _ (by rfl) (N.out.alloc _) _ 1 1 [.string (bs s)] (by rfl) (Src.of_blk (Blk.made_at _ _ _ (by simp)) 1 1 1 rfl) (by intro u hu;simp at hu;rcases hu with rfl;rfl) (by unfold maxLen;omega) (by omega) (by simp;omega) ?_;intro v5 w5 j M J;obtain⟨A5,c5,rfl⟩:=aZ j;have b5:=(al.out.alloc (.cells #[.string (bs s)] 9)).grown M Y.out;have q0:=b5.cell 0;have q1:=b5.frozen 0;simp only[List.getElem?_toArray,List.getElem?_cons_zero]at q0);have E:=hid (ac.out.texts (s:=s) M (by rw[<-HP.out];exact j) J);clear j M J b5 q0 q1 ac N al Y k0;go_roundw
      case measure=>go_light;simp[intOf];omega
      case rel=>go_light;exact⟨i+1,a2,t2++ [s],h2,_,uH,by omega,by first|rfl|go_num,by rw[Ai,<-HP.out];simp;omega,by rw[Ai,<-HP.out];omega,E.out,by intro y hy;rcases BH.1 hy with h|h;exact ar.out y h;(rw[Df]at h;rw[h];exact af.out),by rw[Az (by omega)];exact az.out⟩
     |true=>
      have ah:=ac.out.dat.oh;obtain⟨q,hq⟩:∃q,q=h2.length:=⟨_,rfl⟩;rw[<-hq]at ah aA;obtain⟨Ah,ch,rfl⟩:=aZ ah;have HQ:=hid hq;clear ah hq;go_wp2_with(first|(at_builtin;refine gZ rfl (.tmp 54) (.tmp 56) 33 rfl base 9 j0 _ 1 16 Tryz.underlying33 aw av au aq rfl (by decide) _ _ _ (by rfl) (N.out.alloc _) _ 1 1 [.string (bs s)] (by rfl) (Src.of_blk (Blk.made_at _ _ _ (by simp)) 1 1 1 rfl) (by intro u hu;simp at hu;rcases hu with rfl;rfl) (by unfold maxLen;omega) (by omega) (by simp;omega) ?_;intro v5 w5 j M J;obtain⟨A5,c5,rfl⟩:=aZ j;have b5:=(al.out.alloc (.cells #[.string (bs s)] 9)).grown M Y.out;have q0:=b5.cell 0;have q1:=b5.frozen 0;have E:=hid (ac.out.texts (s:=s) M (by rw[<-HP.out];exact j) J);have r0:=E.out.dat.blk.cell 2;have r1:=E.out.dat.blk.frozen 2;have a5:base<=w5.heap.size:=(by have h1:=E.out.dat.gb;have h2:=b5.lt;omega);have U:=E.out.dat.oh;rw[<-HQ.out]at U;have ax:=hid U;clear U j M J;simp only[List.getElem?_toArray,List.getElem?_cons_zero,List.getElem?_cons_succ]at q0 r0)|(at_builtin;refine gZ rfl (.tmp 67) (.tmp 69) 33 rfl base 9 j0 _ 1 16 Tryz.underlying33 aw av au aq rfl (by decide) _ _ _ (by rfl) (ax.out.alloc _) _ 1 1 [.string (bs s)] (by rfl) (Src.of_blk (Blk.made_at _ _ _ (by simp)) 1 1 1 rfl) (by intro u hu;simp at hu;rcases hu with rfl;rfl) (by unfold maxLen;omega) (by omega) (by simp;omega) ?_;intro v7 w7 L aj ae;obtain⟨A7,c7,rfl⟩:=aZ L;have b7:=(E.out.dat.blk.alloc (.cells #[.string (bs s)] 9)).grown aj (Bg (fZ E.out.dat.oh E.out.dat.blk (by decide)));have s0:=b7.cell 2;have s1:=b7.frozen 2;have aJ:=hid (E.out.heads (s:=s) aj (by rw[<-HQ.out];exact L) ae);clear L aj ae;simp only[List.getElem?_toArray,List.getElem?_cons_zero,List.getElem?_cons_succ]at s0));go_roundw
      case measure=>go_light;simp[intOf];omega
      case rel=>go_light;exact⟨i+1,a2,t2++ [s],h2++ [s],_,_,by omega,by first|rfl|go_num,by rw[Ai,<-HP.out];simp;omega,by rw[Ai,Ai,<-HP.out,<-HQ.out];simp;omega,aJ.out,by intro y hy;rcases BH.1 hy with h|h;exact ar.out y h;(rw[Df]at h;rw[h];exact af.out),by rw[Az (by omega)];exact az.out⟩
    ·have gE:(e2 != 0)=true:=(by simpa using he);have aM:Hid (F=([],e2)):=(by have h:=ab.out;rw[Ab he]at h;exact h.symm);have Y:=hid he;clear he ab ak ai DE;go_wp2_with fail;go_ret;rw[aM.out];exact⟨rfl,aL.out,fun h=>absurd h Y.out⟩
   ·obtain⟨gq,cq,a1,bi,_⟩:=aC.out.form (by omega);injection a1 with q1 q2 q3;subst q1 q3;clear q2;have aO:t2[p-1]? =some aa:=(by have h:=aI.out;rw[List.getLast?_eq_getElem?,<-HP.out,AD (by have:=HP.out;omega)]at h;rw[AD (by have:=HP.out;omega),h];rfl);have cy:wr.cell? ⟨gq,p-1,none⟩=some (.string (bs aa)):=(by rw[aC.out.cellAt (p-1) (by omega)];exact Gd aO);obtain⟨p1,a0⟩:∃p1,p1=p-1:=⟨_,rfl⟩;rw[<-a0]at cy;have sp:IntKind.i64.wrap ((p:Int)-1)=(p1:Int):=(by rw[Ak _ (by omega)];omega);have gp:decide ((0:Int)<(p:Int))=true:=(by simp;omega);have aP:decide (0<p)=true:=(by simp;omega);have ba:(0:Int)<=(p1:Int):=(by omega);have bd:(p1:Int)<(p:Int):=(by omega);clear aO a0 aK;go_wp2_with fail;go_quiet (fail);go_wp2_with fail;refine(DN.out _ (HI.out.cur.drewN _)).mono ?_;rintro e w2 ⟨rfl,ag,z⟩;clear DN;have z:Kept (uZ g wr) wr w2:=⟨z.os,z.tape,z.output,z.size,z.block⟩;have aN:=HI.out.cur.blk;clear cy sp gp aP ba bd;have z2:=z.size;have ai:=hid (fun he:e2=0=>HI.out.next aH (he ▸ ag) z);have aL:Hid (Kept (GI w gd vT vH) w w2):=HI.out.kept.trans ⟨z.os,z.tape,z.output,z.size,fun y hy=>z.block y ⟨by have:=hy.1;omega,fun e=>by have:=hy.1;omega⟩⟩;have DE:=hid (CI w2 g w.heap.size ls B d a2 e2 ag);clear ag z HI c0 aN aC;go_wp2_with fail;refine DE.out.mono ?_;rintro e w3 ⟨rfl,rfl⟩;by_cases he:e2=0
    ·subst he;have G:=ai.out rfl;have ac:=hid G;have hG:=ab.out;rw[Aa (show ¬((0:Int)≠0) from fun h=>h rfl)]at hG;have az:=hid hG;have af:=hid (ak.out rfl);have k0:=G.dat.blk.cell 0;simp only[List.getElem?_toArray,List.getElem?_cons_zero]at k0;have Q:=G.dat.ot;rw[<-HP.out]at Q;have N:=hid Q;have aV:base<=w3.heap.size:=(by omega);have kf:=G.dat.blk.frozen 0;have kb:=G.dat.blk;have ay:=Bg (fZ G.dat.ot G.dat.blk (by decide):_≠some gd);have al:=hid kb;have Y:=hid ay;clear G hG ab ak ai DE Q kf kb ay;cases fb with
     |false=>
      go_wp2_with(at_builtin;refine gZ rfl (.tmp 54) (.tmp 56) 33 rfl base 9 j0 _ 1 16 Tryz.underlying33 aw av au aq rfl (by decide) _ _ _ (by rfl) (N.out.alloc _) _ 1 1 [.string (bs s)] (by rfl) (Src.of_blk (Blk.made_at _ _ _ (by simp)) 1 1 1 rfl) (by intro u hu;simp at hu;rcases hu with rfl;rfl) (by unfold maxLen;omega) (by omega) (by simp;omega) ?_;intro v5 w5 j M J;obtain⟨A5,c5,rfl⟩:=aZ j;have b5:=(al.out.alloc (.cells #[.string (bs s)] 9)).grown M Y.out;have q0:=b5.cell 0;have q1:=b5.frozen 0;simp only[List.getElem?_toArray,List.getElem?_cons_zero]at q0);have E:=hid (ac.out.texts (s:=s) M (by rw[<-HP.out];exact j) J);clear j M J b5 q0 q1 ac N al Y k0;go_roundw
      case measure=>go_light;simp[intOf];omega
      case rel=>go_light;exact⟨i+1,a2,t2++ [s],h2,_,uH,by omega,by first|rfl|go_num,by rw[Ai,<-HP.out];simp;omega,by rw[Ai,<-HP.out];omega,E.out,by intro y hy;rcases BH.1 hy with h|h;exact ar.out y h;(rw[Df]at h;rw[h];exact af.out),by rw[Az (by omega)];exact az.out⟩
     |true=>
      have ah:=ac.out.dat.oh;obtain⟨q,hq⟩:∃q,q=h2.length:=⟨_,rfl⟩;rw[<-hq]at ah aA;obtain⟨Ah,ch,rfl⟩:=aZ ah;have HQ:=hid hq;clear ah hq;go_wp2_with(first|(at_builtin;refine gZ rfl (.tmp 54) (.tmp 56) 33 rfl base 9 j0 _ 1 16 Tryz.underlying33 aw av au aq rfl (by decide) _ _ _ (by rfl) (N.out.alloc _) _ 1 1 [.string (bs s)] (by rfl) (Src.of_blk (Blk.made_at _ _ _ (by simp)) 1 1 1 rfl) (by intro u hu;simp at hu;rcases hu with rfl;rfl) (by unfold maxLen;omega) (by omega) (by simp;omega) ?_;intro v5 w5 j M J;obtain⟨A5,c5,rfl⟩:=aZ j;have b5:=(al.out.alloc (.cells #[.string (bs s)] 9)).grown M Y.out;have q0:=b5.cell 0;have q1:=b5.frozen 0;have E:=hid (ac.out.texts (s:=s) M (by rw[<-HP.out];exact j) J);have r0:=E.out.dat.blk.cell 2;have r1:=E.out.dat.blk.frozen 2;have a5:base<=w5.heap.size:=(by have h1:=E.out.dat.gb;have h2:=b5.lt;omega);have U:=E.out.dat.oh;rw[<-HQ.out]at U;have ax:=hid U;clear U j M J;simp only[List.getElem?_toArray,List.getElem?_cons_zero,List.getElem?_cons_succ]at q0 r0)|(at_builtin;refine gZ rfl (.tmp 67) (.tmp 69) 33 rfl base 9 j0 _ 1 16 Tryz.underlying33 aw av au aq rfl (by decide) _ _ _ (by rfl) (ax.out.alloc _) _ 1 1 [.string (bs s)] (by rfl) (Src.of_blk (Blk.made_at _ _ _ (by simp)) 1 1 1 rfl) (by intro u hu;simp at hu;rcases hu with rfl;rfl) (by unfold maxLen;omega) (by omega) (by simp;omega) ?_;intro v7 w7 L aj ae;obtain⟨A7,c7,rfl⟩:=aZ L;have b7:=(E.out.dat.blk.alloc (.cells #[.string (bs s)] 9)).grown aj (Bg (fZ E.out.dat.oh E.out.dat.blk (by decide)));have s0:=b7.cell 2;have s1:=b7.frozen 2;have aJ:=hid (E.out.heads (s:=s) aj (by rw[<-HQ.out];exact L) ae);clear L aj ae;simp only[List.getElem?_toArray,List.getElem?_cons_zero,List.getElem?_cons_succ]at s0));go_roundw
      case measure=>go_light;simp[intOf];omega
      case rel=>go_light;exact⟨i+1,a2,t2++ [s],h2++ [s],_,_,by omega,by first|rfl|go_num,by rw[Ai,<-HP.out];simp;omega,by rw[Ai,Ai,<-HP.out,<-HQ.out];simp;omega,aJ.out,by intro y hy;rcases BH.1 hy with h|h;exact ar.out y h;(rw[Df]at h;rw[h];exact af.out),by rw[Az (by omega)];exact az.out⟩
    ·have gE:(e2 != 0)=true:=(by simpa using he);have aM:Hid (F=([],e2)):=(by have h:=ab.out;rw[Ab he]at h;exact h.symm);have Y:=hid he;clear he ab ak ai DE;go_wp2_with fail;go_ret;rw[aM.out];exact⟨rfl,aL.out,fun h=>absurd h Y.out⟩
  ·obtain rfl:i=n:=by omega
   have hG:=HG.out;rw[EL,BY]at hG;have gi:decide ((i:Int)<(i:Int))=false:=(by simp);have DE:=hid (Ql wr g w.heap.size ls B d at_ 0 HI.out.cur);have ab:=hid hG;clear hG HG;generalize Ez ls at_ 0=ee at *;go_wp2_with fail;refine DE.out.mono ?_;rintro e w5 ⟨rfl,bb,Z⟩;have a3:Hid (Kept (GI w gd vT vH) w w5):=HI.out.kept.trans ⟨Z.os,Z.tape,Z.output,Z.size,fun y hy=>Z.block y (fun e=>by have:=hy.1;omega)⟩;have a6:Hid (DAt w5 base gd size t2 h2 uT uH):=HI.out.dat.oth HI.out.cur.blk ⟨Z.os,Z.tape,Z.output,Z.size,fun y hy=>Z.block y hy.2⟩;clear bb Z;go_wp2_with fail;go_ret;rw[<-ab.out];exact⟨rfl,a3.out,fun _=>⟨ar.out,h2,uT,uH,a6.out,HI.out.lt,HI.out.lh,aA⟩⟩
end Idx
namespace Idx
open Go.RowKit Mem Own Canon Sift
open NumPut Recs Go.Proofs.YtbgoibedicbkjaaGreatDoor Crc Block
open Nums
def szR(n size:Nat)(ls:List Nat):Nat->Nat->Nat->List Nat->List Nat×Nat×Int
 |0,at_,_,acc=>(acc,at_,0)
 |f+1,at_,x,acc=>if n<=x then(acc,at_,0)else if oZ 2000 ls at_ 0≠0 then([],mZ 2000 ls at_ 0,oZ 2000 ls at_ 0)else szR n size ls f (mZ 2000 ls at_ 0) (x+size) (acc++ [xZ 2000 ls at_ 0])
theorem Pk{n size:Nat}{ls:List Nat}{f at_ x:Nat}{i:List Nat}(h:n<=x):szR n size ls f at_ x i=(i,at_,0):=by
 cases f with
 |zero=>rfl
 |succ f=>exact Ab h
def bkR(size:Nat)(ls:List Nat):List Nat->Nat->Nat->List Str->List Str×Nat×Int
 | [],_,at_,acc=>(acc,at_,0)
 |k :: ks,r,at_,acc=>if Be ls at_ 0 k≠0 then([],0,Be ls at_ 0 k)
  else if(BY (AW ls at_ 0 k) (min size r) true 0 acc).2≠0 then([],0,(BY (AW ls at_ 0 k) (min size r) true 0 acc).2)
  else bkR size ls ks (r-size) (takeA ls at_ 0 k) (BY (AW ls at_ 0 k) (min size r) true 0 acc).1
def Fm(size:Nat)(ls:List Nat):List Nat×Nat×Int:=
 if oZ 1048576 ls 0 0≠0 then([],mZ 1048576 ls 0 0,oZ 1048576 ls 0 0)else szR (xZ 1048576 ls 0 0) size ls (xZ 1048576 ls 0 0) (mZ 1048576 ls 0 0) 0 []
def Dq(size:Nat)(ls:List Nat):List Str×Nat×Int:=
 if(Fm size ls).2.2≠0 then([],0,(Fm size ls).2.2)else bkR size ls (Fm size ls).1 (xZ 1048576 ls 0 0) (Fm size ls).2.1 []
def RQ(w:World)(R:List Str×Nat×Int)(e:Ending)(w':World):Prop:=
 Below w.heap.size w w'/\(R.2.2≠0->e= .returned (.tuple #[.pointer none, .int .i64 0, .int .i64 R.2.2]))/\(R.2.2=0->∃gd size hs vT vH,e= .returned (.tuple #[.pointer (some ⟨gd,0,none⟩), .int .i64 (R.2.1:Nat), .int .i64 0])/\DAt w' w.heap.size gd size R.1 hs vT vH)
theorem IN{w w':World}{R:List Str×Nat×Int}{er:Int}(hR:R=([],0,er))(he:er≠0)(hb:Below w.heap.size w w'):RQ w R (.returned (.tuple #[.pointer none, .int .i64 0, .int .i64 er])) w':=by subst hR;exact⟨hb,fun _=>rfl,fun h=>absurd h he⟩
theorem Vy{w w':World}{row:Option Nat}{g base c at_:Nat}{i:List Nat}{A:Option Addr}{er:Int}(h:Cur w g base i A c at_ er)(hg:w.grownBy w' row)(B:Nat)(y:g<B)(j:∀x,(Value.slice A i.length c).ownBlock=some x->x<B)(hr:∀x,row=some x->B<=x):Cur w' g base i A c at_ er:=
 ⟨h.blk.grown hg (fun e=>by have:=hr g e.symm;omega),dZ h.own (fun x hx=>hg.block x (Ae h.own x hx).2 (fun e=>by have:=j x hx;have:=hr x e.symm;omega)),h.le,h.lo⟩
theorem O7{w:World}{base gd size y:Nat}{ts hs:List Str}{uT uH:Value}(hD:DAt w base gd size ts hs uT uH)(hy:y<w.heap.size)(hb:y<base):GI w gd uT uH y:=
 ⟨hy,by have:=hD.gb;omega,fun e=>by have:=(Ae hD.ot y e).1;omega,fun e=>by have:=(Ae hD.oh y e).1;omega⟩
theorem LR{w:World}{base gd size b2 n y:Nat}{ts hs:List Str}{uT uH v:Value}{e:TypeId}{xs:List Value}(hD:DAt w base gd size ts hs uT uH)(h:w.ownsRow b2 e 1 v n xs)(he:9≠e)(hd:e≠222)(hy:v.ownBlock=some y):GI w gd uT uH y:=
 ⟨(Ae h y hy).2,fun e2=>fZ h hD.blk hd (e2 ▸ hy),fun e2=>by
   rcases EJ hD.ot h he with e3|e3
   ·rw[e3]at e2;cases e2
   ·exact e3 (by rw[e2,hy]),fun e2=>by
   rcases EJ hD.oh h he with e3|e3
   ·rw[e3]at e2;cases e2
   ·exact e3 (by rw[e2,hy])⟩
theorem RF{w w':World}{base gd size g b2 c at_:Nat}{ts hs:List Str}{uT uH:Value}{ls:List Nat}{A:Option Addr}{er:Int}(h:Cur w g b2 ls A c at_ er)(hD:DAt w base gd size ts hs uT uH)(hk:Kept (GI w gd uT uH) w w'):Cur w' g b2 ls A c at_ er:=
 ⟨(hk.block g ⟨h.blk.lt,fun e=>Blk.apart hD.blk h.blk (by decide) e.symm,fZ hD.ot h.blk (by decide),fZ hD.oh h.blk (by decide)⟩).trans h.blk,dZ h.own (fun y hy=>hk.block y (LR hD h.own (by decide) (by decide) hy)),h.le,h.lo⟩
theorem Kh(ls:List Nat):∀ (k:Nat) (first:Bool) (at_:Nat) (i:List Str),(BY ls k first at_ i).2=0->(BY ls k first at_ i).1.length=i.length+k
 |0,_,_,_,_=>rfl
 |k+1,first,at_,i,h=>by
  unfold BY at h ⊢;split at h
  ·rename_i he;exact absurd h he
  ·rename_i he;rw[Aa he];rw[Kh ls k false _ _ h,Ai];simp;omega
theorem Pd:(Tryz.prog.info? 3).map (fun i=>(i.zero,i.size,i.bytes))=some (some (.int .i64 0),1,8):=by kernel_rfl
theorem SC(w:World)(A:Option Addr)(m c size:Nat)(ls:List Nat)(hm:ls.length=m)(bk:m<=100000)(h8:∀x∈ls,x<=255)(aP:A=none->m=0/\c=0)(ha:Row w w.heap.size A m 1 (iZ .u8 ls))(b1:1<=size)(bX:size<=64):
 Calls Tryz.prog 114 #[.int .i64 (size:Nat), .slice A m c] w (RQ w (Dq size ls)):=by
 obtain⟨j0,bO,bL,bG,bt⟩:=info_parts Pd;have D0:=hid (new_any w A m c ls hm bk aP ha);have aI:ls.length<=100000:=by omega
 have ba:=hid aI;have H8:=hid h8;have D1:=hid (fun wx g B d h=>Hi wx g w.heap.size ls B d 0 0 1048576 aI h8 (by omega) h);have b0:decide ((size:Int)<1)=false:=by simp;omega
 have bU:decide (size<1)=false:=by simp;omega
 have b6:decide ((64:Int)<(size:Int))=false:=by simp;omega
 have bT:decide (64<size)=false:=by simp;omega
 obtain⟨R,hR⟩:∃R,R=Dq size ls:=⟨_,rfl⟩;rw[<-hR];unfold Dq at hR;obtain⟨Z,hZ⟩:∃Z,Z=Fm size ls:=⟨_,rfl⟩;rw[<-hZ]at hR;unfold Fm at hZ;have bW:xZ 1048576 ls 0 0<=1048576:=Cs h8 0 0;have bq:oZ 1048576 ls 0 0≠0->xZ 1048576 ls 0 0=0:=by intro h;unfold oZ at h;rw[Aa (by simp)]at h;unfold xZ;rw[Aa (by simp)];exact((EZ 1048576 (ls.drop 0) fun x hx=>h8 x (Bb hx)).2.2.2.1 h).1
 generalize xZ 1048576 ls 0 0=n at *;generalize mZ 1048576 ls 0 0=a0 at *;generalize oZ 1048576 ls 0 0=e0 at *;have bc:Hid ((e0=0->∃f,n<=f+0/\szR n size ls f a0 0 []=Z)/\(e0≠0->Z=([],a0,e0))):=⟨fun h=>⟨n,by omega,by rw[hZ,Aa (by simp[h])]⟩,fun h=>by rw[hZ,Ab h]⟩;have HR:=hid hR;have bM:=hid bq;clear hm h8 aP ha hR hZ bq bk aI;go_enter Tryz.func114,Tryz.ntmps114;go_wp2_with fail;refine D0.out.mono ?_;rintro e w1 ⟨g,B,d,rfl,aK,a8⟩;have DI:=hid (D1.out w1 g B d aK);have bh:=hid a8;have bS:=aK.lo;have b4:=aK.blk.lt;have bY:=a8.size;have bF:Hid (∀y,(Value.slice B ls.length d).ownBlock=some y->y<w1.heap.size):=fun y hy=>(Ae aK.own y hy).2;clear aK a8 D0 D1;go_wp2_with fail;refine DI.out.mono ?_;rintro e w2 ⟨rfl,bi,ay⟩;have bl:Hid (Below w.heap.size w w2):=bh.out.trans (ay.below fun b h=>⟨by omega,by omega⟩);have z2:=ay.size;have bj:=hid bi;clear bi ay bh DI;go_wp2_with fail;go_loopw [9,10] (fun v xv wr=>∃ (x at_ q:Nat) (er:Int) (G:List Nat),x<=n+64/\q<=x/\xv= .int .i64 x/\Hid (G.length=q)/\Hid (q*size=x)/\Hid (0<q->x<n+size)/\Hid (∀y∈G,y<=2000)/\Hid (Cur wr g w.heap.size ls B d at_ er)/\Hid (wr.ownsRow w2.heap.size 3 1 v q (cZ .i64 G))/\Hid (Kept (fun y=>y<w2.heap.size/\y≠g) w2 wr)/\Hid (er=0->∃f,n<=f+x/\szR n size ls f at_ x G=Z)/\Hid (er≠0->Z.2.2=er/\(n=0∨0<q))) (fun _ xv _=>n+64-(intOf xv).toNat)
 case atStart=>exact⟨0,a0,0,e0,[],by omega,by omega,rfl,rfl,by show _=_;omega,fun h=>by omega,fun y hy=>by simp at hy,bj.out,Am _ _ _ _,Kept.refl _ _,bc.out.1,fun h=>⟨by rw[bc.out.2 h], .inl (bM.out h)⟩⟩
 case round=>
  obtain⟨x,at_,q,er,G,hx,b3,rfl,HQ,aO,aW,HA,HC,HO,HK,HT,HE⟩:=hrel;have zk:=HK.out.size;obtain⟨va,vc,rfl⟩:=aZ HO.out;clear bc bj;by_cases bV:x<n
  ·have g1:decide ((x:Int)<(n:Int))=true:=(by simp;omega);have bK:decide (x<n)=true:=(by simp;omega);have DE:=hid (CI wr g w.heap.size ls B d at_ er HC.out);by_cases he:er=0
   ·subst he;obtain⟨f,hf,hT⟩:=HT.out rfl;obtain⟨f,rfl⟩:∃f',f=f'+1:=⟨f-1,by omega⟩;rw[szR,Aa (by omega)]at hT;have D:=hid (fun wx hx=>Hi wx g w.heap.size ls B d at_ 0 2000 ba.out H8.out (by omega) hx);have ay:xZ 2000 ls at_ 0<=2000:=Cs H8.out _ _;generalize xZ 2000 ls at_ 0=k at *;generalize mZ 2000 ls at_ 0=a2 at *;generalize oZ 2000 ls at_ 0=e2 at *;have sx:IntKind.i64.wrap ((x:Int)+(size:Int))=((x+size:Nat):Int):=(by rw[Ak _ (by omega)];omega);have N:Hid ((e2=0->∃f',n<=f'+(x+size)/\szR n size ls f' a2 (x+size) (G++ [k])=Z)/\(e2≠0->Z.2.2=e2/\(n=0∨0<q+1))):=⟨fun h=>⟨f,by omega,by rw[Aa (by simp[h])]at hT;exact hT⟩,fun h=>by rw[Ab h]at hT;rw[<-hT];exact⟨rfl, .inr (by omega)⟩⟩
    have bI:Hid (∀y∈G++ [k],y<=2000):=fun y hy=>by
     rcases BH.1 hy with h|h
     ·exact HA.out y h
     ·rw[Df]at h;omega
    have bm:Hid ((q+1)*size=x+size):=(by show _=_;rw[Fh,aO.out]);clear hT HT HE hf HA aO aW;go_wp2_with fail;refine DE.out.mono ?_;rintro e w3 ⟨rfl,rfl⟩;go_wp2_with fail;refine(D.out _ HC.out).mono ?_;rintro e w4 ⟨rfl,af,J⟩;have z4:=J.size;have aj:=hid af;have ac:Hid (w4.ownsRow w2.heap.size 3 1 (.slice va q vc) q (cZ .i64 G)):=dZ HO.out (fun y hy=>J.block y ⟨(Ae HO.out y hy).2,by have:=(Ae HO.out y hy).1;omega⟩);have aX:Hid (Kept (fun y=>y<w2.heap.size/\y≠g) w2 w4):=HK.out.trans ⟨J.os,J.tape,J.output,J.size,fun y hy=>J.block y ⟨by have:=hy.1;omega,hy.2⟩⟩;clear af J HC HO HK DE D;go_wp2_with(at_builtin;refine gZ rfl (.tmp 39) (.tmp 42) 30 rfl w2.heap.size 3 j0 _ 1 8 Tryz.underlying30 bO bL bG bt rfl (by decide) _ _ _ (by rfl) (ac.out.alloc _) _ 1 1 [.int .i64 (k:Nat)] (by rfl) (Src.of_blk (Blk.made_at _ _ _ (by simp)) 1 1 1 rfl) (by intro u hu;simp at hu;rcases hu with rfl;rfl) (by unfold maxLen;omega) (by omega) (by simp;omega) ?_;intro v5 w5 au a5 bn;obtain⟨A5,c5,rfl⟩:=aZ au);have aU:=fun(y:Nat) hy=>(Ae ac.out y hy).1;have b5:=aX.out.size;have bp:=Vy (aj.out.step (bZ (o:= .cells #[.int .i64 (k:Nat)] 3) (Ag w4.heap.size w4))) a5 w2.heap.size (by omega) (fun y hy=>by have:=bF.out y hy;omega) aU;have bH:=hid bp;have bE:Hid (Kept (fun y=>y<w2.heap.size/\y≠g) w2 w5):=(aX.out.alloc (fun y hy=>by have:=hy.1;omega) _).grown a5 (fun y hy=>by have:=hy.1;simp;omega) (fun y hy hh=>by have:=aU y hy;have:=hh.1;omega);have bD:Hid (w5.ownsRow w2.heap.size 3 1 (.slice A5 (q+1) c5) (q+1) (cZ .i64 (G++ [k]))):=(by show World.ownsRow _ _ _ _ _ _ _;rw[show cZ .i64 (G++ [k])=cZ .i64 G++ [.int .i64 (k:Nat)] by simp[cZ]];exact au);clear au a5 bn aU bp aj ac aX;go_roundw
    case measure=>go_light;simp[intOf];omega
    case rel=>go_light;exact⟨x+size,a2,q+1,e2,G++ [k],by omega,by omega,by first|rfl|go_num,by show _=_;rw[Ai,HQ.out];rfl,bm.out,fun _=>by omega,bI.out,bH.out,bD.out,bE.out,N.out.1,N.out.2⟩
   ·have gE:(er==0)=false:=(by simpa using he);have ar:Hid ((er=0->Z=(G,at_,0))/\(er≠0->Z.2.2=er)):=⟨fun h=>absurd h he,fun h=>(HE.out h).1⟩;clear he HT HE;go_wp2_with fail;refine DE.out.mono ?_;rintro e w3 ⟨rfl,rfl⟩;clear DE;go_wp2_with fail;have aq:Hid ((er=0->R=bkR size ls (G.drop 0) (n-0) at_ [])/\(er≠0->R=([],0,er))):=⟨fun h=>by have hr:=HR.out;rw[ar.out.1 h]at hr;rw[Aa (fun h=>h rfl)]at hr;exact hr,fun h=>by have hr:=HR.out;rw[ar.out.2 h,Ab h]at hr;exact hr⟩;have aB:Hid (DAt (w3.alloc (.cells #[.slice none 0 0, .int .i64 (size:Nat), .slice none 0 0] 222)) w.heap.size w3.heap.size size [] [] (.slice none 0 0) (.slice none 0 0)):=⟨Blk.made _ _ _,Am _ _ _ _,Am _ _ _ _,(fun y h=>by cases h),by omega⟩;have aE:Hid (Cur (w3.alloc (.cells #[.slice none 0 0, .int .i64 (size:Nat), .slice none 0 0] 222)) g w.heap.size ls B d at_ er):=HC.out.step (bZ (Ag _ _));have aA:Hid ((w3.alloc (.cells #[.slice none 0 0, .int .i64 (size:Nat), .slice none 0 0] 222)).ownsRow w2.heap.size 3 1 (.slice va q vc) q (cZ .i64 G)):=HO.out.alloc _;have an:Hid (Below w.heap.size w w3):=bl.out.trans (HK.out.below fun b h=>⟨by omega,by omega⟩);have aM:Hid (Below w.heap.size w (w3.alloc (.cells #[.slice none 0 0, .int .i64 (size:Nat), .slice none 0 0] 222))):=kZ an.out.size an.out;generalize aY:w3.heap.size=gd at *;clear aY ar HR HC HO HK an;go_loopw [49] (fun iv wr=>∃ (i y E:Nat) (j:Int) (ts hs:List Str) (uT uH:Value),i<=q/\iv= .int .i64 i/\Hid (y=i*size)/\ts.length<=y/\hs.length<=ts.length/\Hid (∀s∈ts,s.length<=25)/\Hid (Cur wr g w.heap.size ls B d E j)/\Hid (DAt wr w.heap.size gd size ts hs uT uH)/\Hid (wr.ownsRow w2.heap.size 3 1 (.slice va q vc) q (cZ .i64 G))/\Hid (Below w.heap.size w wr)/\Hid (j=0->R=bkR size ls (G.drop i) (n-y) E ts)/\Hid (j≠0->R=([],0,j))) (fun iv _=>q-(intOf iv).toNat)
    case atStart=>exact⟨0,0,at_,er,[],[], .slice none 0 0, .slice none 0 0,by omega,rfl,by show _=_;omega,by simp,by simp,(fun s hs=>by simp at hs),aE.out,aB.out,aA.out,aM.out,aq.out.1,aq.out.2⟩
    case round=>
     obtain⟨i,y,E,j,ts,hs,uT,uH,hi,rfl,HY,bQ,a4,a1,HC,HD,HO,HB,HT,HE⟩:=hrel;clear aE aB aA aM aq;have zr:=HB.out.size;by_cases aV:i<q
     ·have gi:decide ((i:Int)<(q:Int))=true:=(by simp;omega);have bP:decide (i<q)=true:=(by simp;omega);have bB:y+size<=x:=(by have h1:(i+1)*size<=q*size:=EN size aV;rw[Fh,aO.out,<-HY.out]at h1;exact h1);have bR:=aW.out (by omega);obtain⟨k,hk⟩:∃k,G[i]? =some k:=⟨_,AD (by have:=HQ.out;omega)⟩;have ay:=HA.out k (BF hk);have U:G.drop i=k :: G.drop (i+1):=(by obtain⟨hl,e⟩:=BO.1 hk;rw[CC hl,e]);obtain⟨gv,cv,bf,bC,_⟩:=HO.out.form (by omega);injection bf with q1 q2 q3;subst q1 q3;clear q2;have ck:wr.cell? ⟨gv,i,none⟩=some (.int .i64 (k:Nat)):=(by rw[HO.out.cellAt i (by omega)];unfold cZ;rw[Bw,hk];rfl);have bJ:(0:Int)<=(i:Int):=(by omega);have bN:(i:Int)<(q:Int):=(by omega);have DT:=I1 wr g w.heap.size ls B d E j k ba.out (by omega) HC.out;unfold I5 at DT;have hT:j=0->R=bkR size ls (k :: G.drop (i+1)) (n-y) E ts:=fun h=>by rw[<-U];exact HT.out h
      unfold bkR at hT;have aN:j≠0->Be ls E j k=j:=fun h=>Ab h
      have ak:∀z∈AW ls E j k,z<=255:=fun z hz=>by
       unfold AW at hz;split at hz
       ·simp at hz
       ·split at hz
        ·simp at hz
        ·exact H8.out z (Bb (BV hz))
      have bA:=Nw ls E j k;have aJ:j=0->Be ls E 0 k=Be ls E j k/\AW ls E 0 k=AW ls E j k/\takeA ls E 0 k=takeA ls E j k:=fun h=>by subst h;exact⟨rfl,rfl,rfl⟩
      have N:Hid (j=0->R=if Be ls E j k≠0 then([],0,Be ls E j k)else if(BY (AW ls E j k) (min size (n-y)) true 0 ts).2≠0 then([],0,(BY (AW ls E j k) (min size (n-y)) true 0 ts).2)else bkR size ls (G.drop (i+1)) (n-y-size) (takeA ls E j k) (BY (AW ls E j k) (min size (n-y)) true 0 ts).1):=fun h=>by obtain⟨p1,p2,p3⟩:=aJ h;have h2:=hT h;rw[p1,p2,p3]at h2;exact h2
      have ag:=hid aN;have HK:=hid hk;generalize Be ls E j k=e3 at *;generalize AW ls E j k=pt at *;generalize takeA ls E j k=a3 at *;have az:=hid ak;have DT:=hid DT;clear U hk hT aN ak aJ HT;go_wp2_with fail;refine DT.out.mono ?_;rintro e w4 ⟨v4,rfl,M,af,J⟩;obtain⟨Ap,cp,rfl⟩:=aZ M;have z4:=J.size;have aj:=hid af;have Q:Hid (DAt w4 w.heap.size gd size ts hs uT uH):=HD.out.oth HC.out.blk J;have ac:Hid (w4.ownsRow w2.heap.size 3 1 (.slice (some ⟨gv,0,none⟩) q vc) q (cZ .i64 G)):=dZ HO.out (fun z hz=>J.block z ⟨(Ae HO.out z hz).2,by have:=(Ae HO.out z hz).1;omega⟩);have ax:Hid (Below w.heap.size w w4):=HB.out.trans (J.below fun b h=>⟨by omega,by omega⟩);have aw:=hid M;have DE:=hid (CI w4 g w.heap.size ls B d a3 e3 af);clear M af J DT HC HD HO HB ck;go_wp2_with fail;refine DE.out.mono ?_;rintro e w5 ⟨rfl,rfl⟩;by_cases ab:e3=0
      ·subst ab;have ai:j=0:=EO fun h=>h (ag.out h).symm;have hr:=N.out ai;rw[Aa (show ¬((0:Int)≠0) from fun h=>h rfl)]at hr;obtain⟨r,aL⟩:∃r,r=n-y:=⟨_,rfl⟩;obtain⟨mn,av⟩:∃mn,mn=min size r:=⟨_,rfl⟩;have sy:IntKind.i64.wrap ((i:Int)*(size:Int))=(y:Int):=(by rw[show(i:Int)*(size:Int)=(y:Int) by rw[HY.out];simp,Ak _ (by omega)]);have sr:IntKind.i64.wrap ((n:Int)-(y:Int))=(r:Int):=(by rw[Ak _ (by omega)];omega);have bu:min (size:Int) (r:Int)=(mn:Int):=(by omega);rw[<-aL,<-av]at hr;have DF:=R5 w5 Ap pt.length cp mn w.heap.size gd size pt ts hs uT uH rfl (by omega) az.out (GC aw.out) (own_row aw.out) (by omega) Q.out a1.out (by omega) a4;have am:=Kh pt mn true 0 ts;generalize BY pt mn true 0 ts=F at *;obtain⟨f1,f2⟩:=F;simp only at hr am;have bg:mn<=size:=(by rw[av];exact Nat.min_le_left _ _);have aG:Hid (r-size=n-(y+size)):=(by show _=_;omega);have DF:=hid DF;have ah:=hid hr;clear hr aw N ag az av DE aL ai;go_wp2_with fail;refine DF.out.mono ?_;rintro e w6 ⟨rfl,Y,al⟩;have aF:Hid (Below w.heap.size w w6):=ax.out.trans (Y.below fun b hb=>O7 Q.out (by omega) hb);by_cases hf:f2=0
       ·subst hf;obtain⟨aD,h6,aR,a7,aH,_,_,aC⟩:=al rfl;have be:=hid (RF aj.out Q.out Y);have bb:Hid (w6.ownsRow w2.heap.size 3 1 (.slice (some ⟨gv,0,none⟩) q vc) q (cZ .i64 G)):=dZ ac.out (fun z hz=>Y.block z (LR Q.out ac.out (by decide) (by decide) hz));have aS:=hid aH;have a6:=hid aD;have bd:=am rfl;have aT:Hid (R=bkR size ls (G.drop (i+1)) (n-(y+size)) a3 f1):=(by have h:=ah.out;rw[Aa (fun h=>h rfl),aG.out]at h;exact h);have a9:Hid (y+size=(i+1)*size):=(by show _=_;rw[Fh,HY.out]);have aQ:f1.length<=y+size:=(by omega);simp only at aC;clear Y al aD aH ah DF aj Q ac ax bd am aG;go_wp2_with fail;go_roundw
        case measure=>go_light;simp[intOf];omega
        case rel=>go_light;exact⟨i+1,y+size,a3,0,f1,h6,aR,a7,by omega,by first|rfl|go_num,a9.out,aQ,aC,a6.out,be.out,aS.out,bb.out,aF.out,fun _=>aT.out,fun h=>absurd rfl h⟩
       ·have gE:(f2 != 0)=true:=(by simpa using hf);have L:Hid (R=([],0,f2)):=(by have h:=ah.out;rw[Ab hf]at h;exact h);have aa:=hid hf;clear hf ah al Y DF HE;go_wp2_with fail
        go_ret3
        exact IN L.out aa.out aF.out
      ·have gE:(e3 != 0)=true:=by simpa using ab
       have L:Hid (R=([],0,e3)):=by
        by_cases h:j=0
        ·have h2:=N.out h;rw[Ab ab]at h2;exact h2
        ·rw[ag.out h];exact HE.out h
       have aa:=hid ab;clear ab N HE ag DE;go_wp2_with fail
       go_ret3
       exact IN L.out aa.out ax.out
     ·obtain rfl:i=q:=by omega
      have gi:decide ((i:Int)<(i:Int))=false:=(by simp);have DE:=hid (CI wr g w.heap.size ls B d E j HC.out);have DA:=hid (IT wr g w.heap.size ls B d E j HC.out);by_cases ae:j=0
      ·subst ae;have L:Hid (R=(ts,E,0)):=(by have h:=HT.out rfl;rw[Ce (by rw[HQ.out];exact Aj _)]at h;exact h);clear HT HE;go_wp2_with fail;refine DE.out.mono ?_;rintro e w5 ⟨rfl,rfl⟩;go_wp2_with fail;refine DA.out.mono ?_;rintro e w6 ⟨rfl,rfl⟩;go_wp2_with fail
       go_ret3
       rw[L.out];exact⟨HB.out,fun h=>absurd rfl h,fun _=>⟨gd,size,hs,uT,uH,rfl,HD.out⟩⟩
      ·have gE:(j != 0)=true:=(by simpa using ae);have L:Hid (R=([],0,j)):=HE.out ae;have aa:=hid ae;clear ae HT HE DA;go_wp2_with fail;refine DE.out.mono ?_;rintro e w5 ⟨rfl,rfl⟩;go_wp2_with fail
       go_ret3
       exact IN L.out aa.out HB.out
  ·have g1:decide ((x:Int)<(n:Int))=false:=(by simp;omega);have bK:decide (x<n)=false:=(by simp;omega);have ar:Hid ((er=0->Z=(G,at_,0))/\(er≠0->Z.2.2=er)):=⟨fun h=>by obtain⟨f,_,h2⟩:=HT.out h;rw[Pk (by omega)]at h2;exact h2.symm,fun h=>(HE.out h).1⟩;clear HT HE;obtain⟨w3,rfl⟩:∃w3:World,w3=wr:=⟨_,rfl⟩;go_wp2_with fail;have aq:Hid ((er=0->R=bkR size ls (G.drop 0) (n-0) at_ [])/\(er≠0->R=([],0,er))):=⟨fun h=>by have hr:=HR.out;rw[ar.out.1 h]at hr;rw[Aa (fun h=>h rfl)]at hr;exact hr,fun h=>by have hr:=HR.out;rw[ar.out.2 h,Ab h]at hr;exact hr⟩;have aB:Hid (DAt (w3.alloc (.cells #[.slice none 0 0, .int .i64 (size:Nat), .slice none 0 0] 222)) w.heap.size w3.heap.size size [] [] (.slice none 0 0) (.slice none 0 0)):=⟨Blk.made _ _ _,Am _ _ _ _,Am _ _ _ _,(fun y h=>by cases h),by omega⟩;have aE:Hid (Cur (w3.alloc (.cells #[.slice none 0 0, .int .i64 (size:Nat), .slice none 0 0] 222)) g w.heap.size ls B d at_ er):=HC.out.step (bZ (Ag _ _));have aA:Hid ((w3.alloc (.cells #[.slice none 0 0, .int .i64 (size:Nat), .slice none 0 0] 222)).ownsRow w2.heap.size 3 1 (.slice va q vc) q (cZ .i64 G)):=HO.out.alloc _;have an:Hid (Below w.heap.size w w3):=bl.out.trans (HK.out.below fun b h=>⟨by omega,by omega⟩);have aM:Hid (Below w.heap.size w (w3.alloc (.cells #[.slice none 0 0, .int .i64 (size:Nat), .slice none 0 0] 222))):=kZ an.out.size an.out;generalize aY:w3.heap.size=gd at *;clear aY ar HR HC HO HK an;go_loopw [49] (fun iv wr=>∃ (i y E:Nat) (j:Int) (ts hs:List Str) (uT uH:Value),i<=q/\iv= .int .i64 i/\Hid (y=i*size)/\ts.length<=y/\hs.length<=ts.length/\Hid (∀s∈ts,s.length<=25)/\Hid (Cur wr g w.heap.size ls B d E j)/\Hid (DAt wr w.heap.size gd size ts hs uT uH)/\Hid (wr.ownsRow w2.heap.size 3 1 (.slice va q vc) q (cZ .i64 G))/\Hid (Below w.heap.size w wr)/\Hid (j=0->R=bkR size ls (G.drop i) (n-y) E ts)/\Hid (j≠0->R=([],0,j))) (fun iv _=>q-(intOf iv).toNat)
   case atStart=>exact⟨0,0,at_,er,[],[], .slice none 0 0, .slice none 0 0,by omega,rfl,by show _=_;omega,by simp,by simp,(fun s hs=>by simp at hs),aE.out,aB.out,aA.out,aM.out,aq.out.1,aq.out.2⟩
   case round=>
    obtain⟨i,y,E,j,ts,hs,uT,uH,hi,rfl,HY,bQ,a4,a1,HC,HD,HO,HB,HT,HE⟩:=hrel;clear aE aB aA aM aq;have zr:=HB.out.size;by_cases aV:i<q
    ·have gi:decide ((i:Int)<(q:Int))=true:=(by simp;omega);have bP:decide (i<q)=true:=(by simp;omega);have bB:y+size<=x:=(by have h1:(i+1)*size<=q*size:=EN size aV;rw[Fh,aO.out,<-HY.out]at h1;exact h1);have bR:=aW.out (by omega);obtain⟨k,hk⟩:∃k,G[i]? =some k:=⟨_,AD (by have:=HQ.out;omega)⟩;have ay:=HA.out k (BF hk);have U:G.drop i=k :: G.drop (i+1):=(by obtain⟨hl,e⟩:=BO.1 hk;rw[CC hl,e]);obtain⟨gv,cv,bf,bC,_⟩:=HO.out.form (by omega);injection bf with q1 q2 q3;subst q1 q3;clear q2;have ck:wr.cell? ⟨gv,i,none⟩=some (.int .i64 (k:Nat)):=(by rw[HO.out.cellAt i (by omega)];unfold cZ;rw[Bw,hk];rfl);have bJ:(0:Int)<=(i:Int):=(by omega);have bN:(i:Int)<(q:Int):=(by omega);have DT:=I1 wr g w.heap.size ls B d E j k ba.out (by omega) HC.out;unfold I5 at DT;have hT:j=0->R=bkR size ls (k :: G.drop (i+1)) (n-y) E ts:=fun h=>by rw[<-U];exact HT.out h
     unfold bkR at hT;have aN:j≠0->Be ls E j k=j:=fun h=>Ab h
     have ak:∀z∈AW ls E j k,z<=255:=fun z hz=>by
      unfold AW at hz;split at hz
      ·simp at hz
      ·split at hz
       ·simp at hz
       ·exact H8.out z (Bb (BV hz))
     have bA:=Nw ls E j k;have aJ:j=0->Be ls E 0 k=Be ls E j k/\AW ls E 0 k=AW ls E j k/\takeA ls E 0 k=takeA ls E j k:=fun h=>by subst h;exact⟨rfl,rfl,rfl⟩
     have N:Hid (j=0->R=if Be ls E j k≠0 then([],0,Be ls E j k)else if(BY (AW ls E j k) (min size (n-y)) true 0 ts).2≠0 then([],0,(BY (AW ls E j k) (min size (n-y)) true 0 ts).2)else bkR size ls (G.drop (i+1)) (n-y-size) (takeA ls E j k) (BY (AW ls E j k) (min size (n-y)) true 0 ts).1):=fun h=>by obtain⟨p1,p2,p3⟩:=aJ h;have h2:=hT h;rw[p1,p2,p3]at h2;exact h2
     have ag:=hid aN;have HK:=hid hk;generalize Be ls E j k=e3 at *;generalize AW ls E j k=pt at *;generalize takeA ls E j k=a3 at *;have az:=hid ak;have DT:=hid DT;clear U hk hT aN ak aJ HT;go_wp2_with fail;refine DT.out.mono ?_;rintro e w4 ⟨v4,rfl,M,af,J⟩;obtain⟨Ap,cp,rfl⟩:=aZ M;have z4:=J.size;have aj:=hid af;have Q:Hid (DAt w4 w.heap.size gd size ts hs uT uH):=HD.out.oth HC.out.blk J;have ac:Hid (w4.ownsRow w2.heap.size 3 1 (.slice (some ⟨gv,0,none⟩) q vc) q (cZ .i64 G)):=dZ HO.out (fun z hz=>J.block z ⟨(Ae HO.out z hz).2,by have:=(Ae HO.out z hz).1;omega⟩);have ax:Hid (Below w.heap.size w w4):=HB.out.trans (J.below fun b h=>⟨by omega,by omega⟩);have aw:=hid M;have DE:=hid (CI w4 g w.heap.size ls B d a3 e3 af);clear M af J DT HC HD HO HB ck;go_wp2_with fail;refine DE.out.mono ?_;rintro e w5 ⟨rfl,rfl⟩;by_cases ab:e3=0
     ·subst ab;have ai:j=0:=EO fun h=>h (ag.out h).symm;have hr:=N.out ai;rw[Aa (show ¬((0:Int)≠0) from fun h=>h rfl)]at hr;obtain⟨r,aL⟩:∃r,r=n-y:=⟨_,rfl⟩;obtain⟨mn,av⟩:∃mn,mn=min size r:=⟨_,rfl⟩;have sy:IntKind.i64.wrap ((i:Int)*(size:Int))=(y:Int):=(by rw[show(i:Int)*(size:Int)=(y:Int) by rw[HY.out];simp,Ak _ (by omega)]);have sr:IntKind.i64.wrap ((n:Int)-(y:Int))=(r:Int):=(by rw[Ak _ (by omega)];omega);have bu:min (size:Int) (r:Int)=(mn:Int):=(by omega);rw[<-aL,<-av]at hr;have DF:=R5 w5 Ap pt.length cp mn w.heap.size gd size pt ts hs uT uH rfl (by omega) az.out (GC aw.out) (own_row aw.out) (by omega) Q.out a1.out (by omega) a4;have am:=Kh pt mn true 0 ts;generalize BY pt mn true 0 ts=F at *;obtain⟨f1,f2⟩:=F;simp only at hr am;have bg:mn<=size:=(by rw[av];exact Nat.min_le_left _ _);have aG:Hid (r-size=n-(y+size)):=(by show _=_;omega);have DF:=hid DF;have ah:=hid hr;clear hr aw N ag az av DE aL ai;go_wp2_with fail;refine DF.out.mono ?_;rintro e w6 ⟨rfl,Y,al⟩;have aF:Hid (Below w.heap.size w w6):=ax.out.trans (Y.below fun b hb=>O7 Q.out (by omega) hb);by_cases hf:f2=0
      ·subst hf;obtain⟨aD,h6,aR,a7,aH,_,_,aC⟩:=al rfl;have be:=hid (RF aj.out Q.out Y);have bb:Hid (w6.ownsRow w2.heap.size 3 1 (.slice (some ⟨gv,0,none⟩) q vc) q (cZ .i64 G)):=dZ ac.out (fun z hz=>Y.block z (LR Q.out ac.out (by decide) (by decide) hz));have aS:=hid aH;have a6:=hid aD;have bd:=am rfl;have aT:Hid (R=bkR size ls (G.drop (i+1)) (n-(y+size)) a3 f1):=(by have h:=ah.out;rw[Aa (fun h=>h rfl),aG.out]at h;exact h);have a9:Hid (y+size=(i+1)*size):=(by show _=_;rw[Fh,HY.out]);have aQ:f1.length<=y+size:=(by omega);simp only at aC;clear Y al aD aH ah DF aj Q ac ax bd am aG;go_wp2_with fail;go_roundw
       case measure=>go_light;simp[intOf];omega
       case rel=>go_light;exact⟨i+1,y+size,a3,0,f1,h6,aR,a7,by omega,by first|rfl|go_num,a9.out,aQ,aC,a6.out,be.out,aS.out,bb.out,aF.out,fun _=>aT.out,fun h=>absurd rfl h⟩
      ·have gE:(f2 != 0)=true:=(by simpa using hf);have L:Hid (R=([],0,f2)):=(by have h:=ah.out;rw[Ab hf]at h;exact h);have aa:=hid hf;clear hf ah al Y DF HE;go_wp2_with fail
       go_ret3
       exact IN L.out aa.out aF.out
     ·have gE:(e3 != 0)=true:=by simpa using ab
      have L:Hid (R=([],0,e3)):=by
       by_cases h:j=0
       ·have h2:=N.out h;rw[Ab ab]at h2;exact h2
       ·rw[ag.out h];exact HE.out h
      have aa:=hid ab;clear ab N HE ag DE;go_wp2_with fail
      go_ret3
      exact IN L.out aa.out ax.out
    ·obtain rfl:i=q:=by omega
     have gi:decide ((i:Int)<(i:Int))=false:=(by simp);have DE:=hid (CI wr g w.heap.size ls B d E j HC.out);have DA:=hid (IT wr g w.heap.size ls B d E j HC.out);by_cases ae:j=0
     ·subst ae;have L:Hid (R=(ts,E,0)):=(by have h:=HT.out rfl;rw[Ce (by rw[HQ.out];exact Aj _)]at h;exact h);clear HT HE;go_wp2_with fail;refine DE.out.mono ?_;rintro e w5 ⟨rfl,rfl⟩;go_wp2_with fail;refine DA.out.mono ?_;rintro e w6 ⟨rfl,rfl⟩;go_wp2_with fail
      go_ret3
      rw[L.out];exact⟨HB.out,fun h=>absurd rfl h,fun _=>⟨gd,size,hs,uT,uH,rfl,HD.out⟩⟩
     ·have gE:(j != 0)=true:=(by simpa using ae);have L:Hid (R=([],0,j)):=HE.out ae;have aa:=hid ae;clear ae HT HE DA;go_wp2_with fail;refine DE.out.mono ?_;rintro e w5 ⟨rfl,rfl⟩;go_wp2_with fail
      go_ret3
      exact IN L.out aa.out HB.out
end Idx
end Go.Proofs.YtbgoibedicbkjaaGreatDoor
