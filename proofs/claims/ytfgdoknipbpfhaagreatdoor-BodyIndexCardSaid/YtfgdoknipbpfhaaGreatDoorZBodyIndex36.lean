/- slices.Repeat of one -/
import Derived.Test.YtfgdoknipbpfhaaGreatDoorZBodyIndex19
import Derived.Lib.Zigzag
import Derived.Laws.CopyOwn
namespace Go.Proofs.YtfgdoknipbpfhaaGreatDoor
open Go.Proofs.Tryz
open Go.Lib (hid)
set_option maxHeartbeats 4000000
set_option maxRecDepth 100000
variable{base c g i k m n s x:Nat}{a b w w':World}{e:TypeId}{xs:List Value}{A:Option Addr}{ls:List Nat}
namespace Recs
open Go.RowKit Mem Own Canon NumPut
open Crc (FB)
def Ha(z:Nat):Nat:=if z % 2=1 then 18446744073709551615-z / 2 else z / 2
theorem Yd{z:Nat}(h:z<18446744073709551616):Ha z<18446744073709551616:=by unfold Ha;split<;>omega
theorem XS(w:World)(z:Nat)(hz:z<18446744073709551616):
 Calls prog 242 #[.int .u64 z] w fun e w'=>e= .returned (.int .u64 (Ha z:Nat))/\w'=w:=by
 obtain⟨y,hy⟩:=jc (Ha z);rw[<-hy];unfold Ha at hy;have ha:bits .and .u64 (z:Int) 1=((z % 2:Nat):Int):=by have h:=bits_and_u64_nat z 1 hz nB;rw[Nat.and_one_is_mod]at h;exact h
 have e:bits .xor .u64 ((z:Int) / 2) (IntKind.u64.wrap (-(bits .and .u64 (z:Int) 1)))=(y:Int):=by
  rw[ha];by_cases h:z % 2=1
  ·rw[Ag h]at hy;have e2:IntKind.u64.wrap (-((z % 2:Nat):Int))=((2 ^ 64-1:Nat):Int):=(by rw[Bj,h];omega);rw[e2,show(z:Int) / 2=((z / 2:Nat):Int) by omega,bits_xor_u64_nat _ _ nB ji,Nat.xor_comm,Lib.xor_ones64 _ nB];omega
  ·rw[Ae h]at hy;have e2:IntKind.u64.wrap (-((z % 2:Nat):Int))=((0:Nat):Int):=n4;rw[e2,show(z:Int) / 2=((z / 2:Nat):Int) by omega,bits_xor_u64_nat _ _ nB ji,Nat.xor_zero];omega
 have HE:=hid e;clear hy e ha;go_enter func242,ntmps242;go_wp2_with fail;go_ret;exact⟨KJ HE.out,rfl⟩
theorem kI(w:World)(k:Nat)(hk:k<=100000):
 Calls prog 327 #[.int .u64 1, .int .u64 k] w fun e w'=>e= .returned (.tuple #[.int .u64 0, .int .u64 k])/\w'=w:=by
 have a1:bits .and .u64 (1:Int) 4294967295=1:=ji
 have a0:bits .and .u64 (0:Int) 4294967295=0:=ji
 have ak:bits .and .u64 (k:Int) 4294967295=(k:Int):=by have h:=bits_and_u64_nat k 4294967295 nB nB;rw[show 4294967295=2 ^ 32-1 from rfl,NF,Nat.mod_eq_of_lt nB]at h;exact h
 have sk:(k:Int) / 4294967296=0:=nB
 have wk:IntKind.u64.wrap (k:Int)=(k:Int):=n4
 go_enter func327,ntmps327;go_wp2_with fail;go_ret2;exact⟨rfl,rfl⟩
theorem Xz(w:World)(k:Nat)(hk:k<=100000):
 Calls prog 293 #[.int .u64 1, .int .u64 k] w fun e w'=>e= .returned (.tuple #[.int .u64 0, .int .u64 k])/\w'=w:=by
 have D:=hid (kI w k hk);go_enter func293,ntmps293;go_wp2_with fail;refine D.out.mono ?_;rintro e w1 ⟨rfl,rfl⟩;go_wp2_with fail;go_ret2;exact⟨rfl,rfl⟩
def Fw(x n k:Nat):List Value:=List.replicate n (.int .u8 (x:Nat))++List.replicate (k-n) (.int .u8 0)
theorem Uk(h:n<=k):(Fw x n k).length=k:=by simp[Fw];omega
theorem jR(x k:Nat):madeCells #[.int .u8 0] k=(Fw x 0 k).toArray:=by
 apply Array.ext_getElem?
 intro i;by_cases h:i<k
 ·simp[Fw,madeCells,h,Nat.mod_one]
 ·simp[Fw,madeCells,h]
theorem T8(x n m k:Nat):splice (Fw x n k) n (List.replicate m (.int .u8 (x:Nat)))=Fw x (n+m) k:=by
 unfold splice Fw;have e1:(List.replicate n (Value.int .u8 (x:Nat))++List.replicate (k-n) (Value.int .u8 0)).take n=List.replicate n (Value.int .u8 (x:Nat)):=by rw[List.take_append_of_le_length pR];simp
 have e2:(List.replicate n (Value.int .u8 (x:Nat))++List.replicate (k-n) (Value.int .u8 0)).drop (n+m)=List.replicate (k-(n+m)) (Value.int .u8 0):=by rw[List.drop_append];simp;omega
 rw[Ez,e1,e2,<-AK,List.replicate_append_replicate]
theorem i7(x k:Nat):Fw x k k=bZ .u8 (List.replicate k x):=by simp[Fw,bZ]
theorem VP{a v:Value}(h:(List.replicate m a)[i]? =some v):i<m/\v=a:=by obtain⟨hj,hv⟩:=BS.1 h;rw[Ez]at hj;rw[List.getElem_replicate]at hv;exact⟨hj,hv.symm⟩
theorem WE:(prog.info? 5).map (fun i=>(i.zero,i.size,i.bytes))=some (some (.int .u8 0),1,1):=ni
theorem Wk(n:Nat)(hn:n<=8388608)(w:World):(Instr.makeSlice 28 (.int .i64 (n:Int)) (.int .i64 (n:Int))).run prog w=
 .ok (.slice (some ⟨w,0,none⟩) n n) (w.alloc (.cells (madeCells #[.int .u8 0] n) 5)):=by
 obtain⟨i0,hi,j,i,E⟩:=info_parts WE;have h:=run_make (P:=prog) w 28 5 i0 (.int .u8 0) underlying28 hi j .i64 .i64 (n:Int) (n:Int) nB (Int.le_refl _) n8 nB;simp only[Int.toNat_natCast]at h;simpa[i,Value.cells]using h
theorem VD:(prog.info? 5).map (·.size)=some 1:=ni
theorem aH(w:World)(g c x k:Nat)(hk:k<=100000)(hx:Blk w g 5 #[.int .u8 (x:Nat)]):
 Calls prog 244 #[.slice (some ⟨g,0,none⟩) 1 c, .int .i64 (k:Nat)] w fun e w'=>∃v,e= .returned v/\w'.ownsRow w 5 1 v k (bZ .u8 (List.replicate k x))/\Below w w w':=by
 have D:=hid (Xz w k hk);have hm:=Wk k nB;have Q:=jb ((k:Int)<0)
 have Y:=jb ((9223372036854775807:Int)<k)
 have G:=jb (9223372036854775807<k)
 have wk:IntKind.u64.wrap (k:Int)=(k:Int):=n4
 have wi:IntKind.i64.wrap (k:Int)=(k:Int):=Az _ nB;have c0:=hx.iy 0;have hg:=hx.lt;have af:=hid c0;clear hx;rw[jR x k]at hm;go_enter func244,ntmps244;go_wp2_with fail;refine D.out.mono ?_;rintro e w1 ⟨rfl,rfl⟩;obtain⟨m,i⟩:=jc (Nat.min 1 k);have ah:m<=k:=by rw[i];exact Nat.min_le_right _ _
 have aq:m<=1:=by rw[i];exact Nat.min_le_left _ _
 have HM:=hid i;have L:Hid (0<k->0<m):=fun h=>by rw[i];exact Nat.lt_min.2 ⟨nB,h⟩
 clear i;go_wp2_with((with_reducible show wpList _ _ _ (⟨some 33,_,_,_,_,_⟩ :: _) _ _);refine wpList_copy_splice rfl (.tmp 31) (.tmp 32) 28 28 rfl 5 underlying28 VD (some ⟨w1,0,none⟩) (some ⟨g,0,none⟩) k k 1 c nC nC w1.heap.size 0 (Fw x 0 k) 5 (heap_alloc_new w1 _) (List.replicate m (.int .u8 (x:Nat))) (by rw[Ez];exact HM.out) (fun _=>⟨rfl,_,rfl,fun j v hv=>by obtain⟨hj,rfl⟩:=VP hv;obtain rfl:j=0:=nB;exact(World.cell?_alloc_lt w1 _ ⟨g,0,none⟩ hg).trans af.out⟩) (by rw[Ez,Uk (Da k)];omega) (by intro v hv;rw[(List.mem_replicate.1 hv).2];rfl) w1.heap.size w1 (cZ (Ak _ _)) (Am _) ?_;intro w2 E aa);have J:=hid aa;rw[T8]at E;rw[B0]at E;have U:Hid (0<k->0<m):=L.out;clear aa c0 hm D HM L Y G Q wk wi;generalize hb:w1.heap.size=b at *;have Z:=hid hb;clear hb;go_loopw [8] (fun nv wr=>∃q:Nat,q<=k/\nv= .int .i64 q/\Hid (0<k->0<q)/\Hid (wr.heap[b]? =some (.cells (Fw x q k).toArray 5 (0,0)))/\Hid (Below b w1 wr)) (fun nv _=>k-(intOf nv).toNat)
 case atStart=>exact⟨m,ah,rfl,U.out,E.out,J.out⟩
 case round=>
  obtain⟨q,hq,rfl,HQ,HG,HB⟩:=hrel;clear E J U;by_cases ar:q<k
  ·have g1:=ja ((q:Int)<k);have am:=ja (q<k);have aj:0<q:=HQ.out nB;have ab:Ba (some ⟨b,0,none⟩) q k 1=some ⟨b,q,none⟩:=(by unfold Ba;rw[Ae nB];show some (Addr.add ⟨b,0,none⟩ (q*1))=_;rw[Gx,B0,EK]);have ai:=fun wx=>Gg (P:=prog) (t:=28) (s:=1) underlying28 (fun _=>by kernel_rfl) (some ⟨b,0,none⟩) k k .i64 (q:Int) q rfl hq wx;rw[ab]at ai;have an:=fun wx=>FB (P:=prog) (t:=28) (s:=1) underlying28 (fun _=>by kernel_rfl) (some ⟨b,0,none⟩) k k .i64 (q:Int) q rfl hq (by intro a ha;injection ha with ha;subst ha;exact Gx _ _ _) wx;obtain⟨d,hd⟩:=jc (Nat.min q (k-q));have ac:q+d<=k/\0<d/\d<=q:=(by have h1:d<=k-q:=(by rw[hd];exact Nat.min_le_right _ _);have h2:d<=q:=(by rw[hd];exact Nat.min_le_left _ _);have h3:0<d:=(by rw[hd];exact Nat.lt_min.2 ⟨aj,nB⟩);omega);have S1:Hid (IntKind.i64.wrap ((q:Int)+(d:Int))=((q+d:Nat):Int)):=(by show _=_;rw[Az _ nB];omega);have S2:Hid (wrap64 ((q:Int)+(d:Int))=((q+d:Nat):Int)):=(by show _=_;rw[JH _ ⟨nB,nB⟩];omega);have HD:=hid hd;have N:Hid (∀j v,(List.replicate d (Value.int .u8 (x:Nat)))[j]? =some v->wr.cell? (Addr.add ⟨b,0,none⟩ j)=some v):=fun j v hv=>by obtain⟨hj,rfl⟩:=VP hv;have ag:j<q:=nB;rw[Gx,B0,(show Blk wr b _ _ from HG.out).cell j];simp[Fw,List.getElem?_append,ag]
   clear hd ab;have s1:=S1.out;have s2:=S2.out;go_wp2_with fail;go_region_law((refine step_copy_splice rfl (.tmp 41) (.tmp 44) 28 28 rfl 5 underlying28 VD (some ⟨b,q,none⟩) (some ⟨b,0,none⟩) (k-q) (k-q) q k (by go_simp) (by go_simp) b q (Fw x q k) 5 HG.out (List.replicate d (.int .u8 (x:Nat))) (by rw[Ez];exact HD.out) (fun _=>⟨rfl,_,rfl,N.out⟩) (by rw[Ez,Uk hq];exact ac.1) (by intro v hv;rw[(List.mem_replicate.1 hv).2];rfl) b w1 HB.out.drew (Am _) ?_);intro w4 ae M)
   all_goals
    have al:Hid (w4.heap[b]? =some (.cells (Fw x (q+d) k).toArray 5 (0,0))):=(by have h:=ae.out;rw[T8]at h;exact h);have ak:=hid M;clear ae M
    go_simp
    go_wp2_with fail;go_roundw
    case measure=>exact ld
    case rel=>go_light;exact⟨q+d,ac.1,jk,fun _=>nB,al.out,ak.out⟩
  ·obtain rfl:q=k:=by omega
   have g1:=jb ((q:Int)<q);go_wp2_with fail;go_ret;refine⟨_,rfl,⟨p7, .inr ⟨b,q,(Fw x q q).toArray,rfl,?_,HG.out,Am _,qn,by simp[Fw],?_⟩⟩,?_⟩
   ·rw[<-Z.out];exact Am _
   ·rw[EK,<-i7];exact Bp (by simp[Fw])
   ·rw[<-Z.out]at HB;exact HB.out
end Recs
namespace Recs
open Go.RowKit Mem Own Canon NumPut Nums
def Gb:Nat->List Nat->Nat->Nat->List Nat->List Nat×Nat×Int
 |0,_,at_,_,acc=>(acc,at_,0)
 |k+1,bs,at_,was,acc=>if II bs at_ 0≠0 then([],IJ bs at_ 0,II bs at_ 0)else Gb k bs (IJ bs at_ 0) ((was+Ha (H5 bs at_ 0)) % 18446744073709551616) (acc++ [(was+Ha (H5 bs at_ 0)) % 18446744073709551616])
theorem Jf{K K':Nat->Prop}(h:Kept K a b)(hi:∀x,K' x->K x):Kept K' a b:=⟨h.os,h.tape,h.output,h.size,fun x hx=>h.block x (hi x hx)⟩
theorem Pf{B:Nat}{c:World}(h:Kept (fun x=>x<B/\x≠g) a b)(hB:B<=b.heap.size)(k:Kept (BL g b) b c):Kept (fun x=>x<B/\x≠g) a c:=h.trans (Jf k fun x hx=>⟨mW,hx.2⟩)
theorem Nv{v:Value}(h:w.ownsRow base e s v n xs)(hg:g<base)(k:Kept (BL g w) w w'):w'.ownsRow base e s v n xs:=
 eZ h fun x hx=>k.block x ⟨(Ai h x hx).2,by have:=(Ai h x hx).1;omega⟩
theorem Nr{b:Nat}{t:TypeId}{cs:Array Value}(h:Blk w b t cs)(hg:b≠g)(k:Kept (BL g w) w w'):Blk w' b t cs:=(k.block b ⟨h.lt,hg⟩).trans h
theorem Li{k:IntKind}(h:w.ownsRow base e 1 (.slice A n c) n (bZ k ls)):Src w A n c 1 (bZ k ls):=by
 obtain⟨h0,h1⟩:=h;refine⟨h0,?_⟩;rcases h1 with ⟨hv,_⟩|⟨g,E,cur,hv,_,hh,_,_,_,i⟩
 ·injection hv with e1 e2 e3;exact .inl ⟨e1,e2,e3⟩
 ·injection hv with e1 e2 e3;refine .inr ⟨⟨g,0,none⟩,e1,fun j u hu=> ?_⟩;rw[Gx,B0,Blk.cell hh];rw[<-i,Gn]at hu;split at hu
  ·simpa using hu
  ·cases hu
theorem J2{row:Option Nat}{at_:Nat}{bs:List Nat}{er:Int}(h:Cur w g base bs A c at_ er)(hg:w.grownBy w' row)(B:Nat)(j:g<B)(i:∀x,(Value.slice A bs.length c).ownBlock=some x->x<B)(hr:∀x,row=some x->B<=x):Cur w' g base bs A c at_ er:=
 ⟨h.blk.grown hg (fun e=>by have:=hr g e.symm;omega),eZ h.own (fun x hx=>hg.block x (Ai h.own x hx).2 (fun e=>by have:=i x hx;have:=hr x e.symm;omega)),h.le,h.lo⟩
def lenS:Value->Nat
 | .slice _ n _=>n
 |_=>0
theorem iH:(prog.info? 41).map (fun i=>(i.zero,i.size,i.bytes))=some (some (.int .u64 0),1,8):=ni
def TD(w:World)(n g base:Nat)(bs:List Nat)(A:Option Addr)(c:Nat)(T:List Nat×Nat×Int)(e:Ending)(w':World):Prop:=
 ∃v acc,e= .returned v/\acc.length<=n/\w'.ownsRow w 41 1 v acc.length (bZ .u64 acc)/\Cur w' g base bs A c T.2.1 T.2.2/\Kept (BL g w) w w'/\(T.2.2=0->acc=T.1)
theorem gO(w:World)(g base:Nat)(bs:List Nat)(A:Option Addr)(c at_ n:Nat)(ab:bs.length<=100000)(h8:∀x∈bs,x<=255)(hn:n<=20000)(h:Cur w g base bs A c at_ 0):
 Calls prog 193 #[.agg #[.pointer (some ⟨g,0,none⟩)], .int .i64 (n:Nat)] w (TD w n g base bs A c (Gb n bs at_ 0 [])):=by
 obtain⟨j0,bc,au,a3,ba⟩:=info_parts iH;obtain⟨T,hT⟩:=jc (Gb n bs at_ 0 []);rw[<-hT];have ak:Hid (Gb (n-0) bs at_ 0 []=T):=hT.symm;have H8:=hid h8;have a4:=hid ab;have bh:=h.blk.lt;have H:=hid h;have av:Hid (∀y,(Value.slice A bs.length c).ownBlock=some y->y<w.heap.size):=fun y hy=>(Ai h.own y hy).2;unfold TD;clear h h8 hT ab;go_enter func193,ntmps193;go_wp2_with fail;have ag:=H.out.step (w':=w.alloc (.cells #[.pointer (some ⟨g,0,none⟩)] 249)) (cZ (Ak _ _));have N:Blk (w.alloc (.cells #[.pointer (some ⟨g,0,none⟩)] 249)) w 249 #[.pointer (some ⟨g,0,none⟩)]:=Blk.made _ _ _;have Y:Kept (BL g w) w (w.alloc (.cells #[.pointer (some ⟨g,0,none⟩)] 249)):=Kept.of_below (B:=w.heap.size) (cZ (Ak _ _)) (fun x hx=>hx.1);generalize w.alloc (.cells #[.pointer (some ⟨g,0,none⟩)] 249)=w1 at *;have z1:=Y.size;have a0:=N.lt;have ay:=hid ag;have ax:=hid N;have ah:=hid Y;have a9:w.heap.size≠g:=nB
 clear ag N Y H;go_loopw [5,6] (fun v uv wr=>∃ (a1:Nat) (er:Int) (E p:Nat) (j:List Nat),p<=n/\E<18446744073709551616/\uv= .int .u64 E/\Hid (j.length=p)/\Hid (Cur wr g base bs A c a1 er)/\Hid (wr.ownsRow w1 41 1 v p (bZ .u64 j))/\Hid (Kept (fun x=>x<w1.heap.size/\x≠g) w1 wr)/\Hid (er=0->Gb (n-p) bs a1 E j=T)/\Hid (er≠0->T=([],a1,er))) (fun v _ _=>n-lenS v)
 case atStart=>exact⟨at_,0,0,0,[],nB,nB,rfl,rfl,ay.out,AE _ _ _ _,Kept.refl _ _,fun _=>ak.out,fun h=>absurd rfl h⟩
 case round=>
  obtain⟨a1,er,E,p,j,hp,bd,rfl,HP,HC,HO,HK,HT,HE⟩:=hrel;have zk:=HK.out.size;obtain⟨va,vc,rfl⟩:=aZ HO.out;have xb:Blk wr w 249 #[.pointer (some ⟨g,0,none⟩)]:=(HK.out.block _ ⟨a0,a9⟩).trans ax.out;have x0:=xb.iy 0;have XB:=hid xb;clear xb ak;by_cases bi:p<n
  ·have g1:=ja ((p:Int)<n);have bf:=ja (p<n);have DE:=hid (Ej wr g base bs A c a1 er HC.out);by_cases he:er=0
   ·subst he;have J:=HT.out rfl;rw[show n-p=(n-(p+1))+1 by omega,Gb]at J;have M:H5 bs a1 0<18446744073709551616:=(by have bb:∀x∈bs.drop a1,x<=255:=fun x hx=>H8.out x (Cg hx);have:=(JP (bs.drop a1) 0 0 bb nB pR).1;unfold H5;rw[Ae pR];exact this);have D1:=hid (fun wx hx=>num_any wx g base bs A c a1 0 a4.out H8.out hx);generalize H5 bs a1 0=v1 at *;generalize IJ bs a1 0=a2 at *;generalize II bs a1 0=e2 at *;have be:=Yd M;have D2:=hid (fun wx=>XS wx v1 M);generalize Ha v1=y1 at *;have s1:IntKind.u64.wrap ((E:Int)+(y1:Int))=(((E+y1) % 18446744073709551616:Nat):Int):=n4;have am:(E+y1) % 18446744073709551616<18446744073709551616:=Nat.mod_lt _ nB;generalize (E+y1) % 18446744073709551616=i at *;have al:Hid ((e2=0->Gb (n-(p+1)) bs a2 i (j++ [i])=T)/\(e2≠0->T=([],a2,e2))):=⟨fun h=>by rw[Ae p8]at J;exact J,fun h=>by rw[Ag h]at J;exact J.symm⟩;clear J HT HE;go_wp2_with fail;refine DE.out.mono ?_;rintro e w2 ⟨rfl,rfl⟩;go_wp2_with fail;refine(D1.out _ HC.out).mono ?_;rintro e w3 ⟨rfl,ac,L⟩;have z3:=L.size;have a5:=hid ac;have ae:Hid (w3.ownsRow w1 41 1 (.slice va p vc) p (bZ .u64 j)):=Nv HO.out nB L;have an:Hid (Kept (fun x=>x<w1.heap.size/\x≠g) w1 w3):=Pf HK.out zk L;clear ac L x0 HC HO HK DE D1 XB;go_wp2_with fail;refine(D2.out _).mono ?_;rintro e w4 ⟨rfl,rfl⟩;go_wp2_with(at_builtin;refine fZ rfl (.tmp 23) (.tmp 25) 98 rfl w1 41 j0 _ 1 8 underlying98 bc au a3 ba rfl ji _ _ _ nC (ae.out.alloc _) _ 1 1 [.int .u64 (i:Nat)] nC (Src.of_blk (Blk.made_at _ _ _ pR) 1 1 1 rfl) mY qn nB p5 ?_;intro v5 w5 G U aj;obtain⟨A5,c5,rfl⟩:=aZ G);have aa:=cZ (o:= .cells #[.int .u64 (i:Nat)] 41) (Ak w4 w4);have ai:=a5.out.step aa;have Q:Kept (fun x=>x<w1.heap.size/\x≠g) w1 (w4.alloc (.cells #[.int .u64 (i:Nat)] 41)):=an.out.trans (Kept.of_below aa (fun x hx=>by have:=hx.1;omega));have bg:=Q.size;have Z:∀y,(Value.slice va p vc).ownBlock=some y->w1.heap.size<=y:=fun y hy=>(Ai ae.out y hy).1;have af:Cur w5 g base bs A c a2 e2:=J2 ai U w1 nB (fun y hy=>by have:=av.out y hy;omega) Z;have aq:Hid (Kept (fun x=>x<w1.heap.size/\x≠g) w1 w5):=Q.grown U (fun y hy=>by have:=hy.1;omega) (fun y hy hh=>by have:=Z y hy;have:=hh.1;omega);have a6:=hid af;have ar:Hid (w5.ownsRow w1 41 1 (.slice A5 (p+1) c5) (p+1) (bZ .u64 (j++ [i]))):=(by show World.ownsRow _ _ _ _ _ _ _;rw[show bZ .u64 (j++ [i])=bZ .u64 j++ [.int .u64 (i:Nat)] by simp[bZ]];exact G);clear G U aj aa ai Q af Z;go_roundw
    case measure=>go_light;simp[lenS];omega
    case rel=>go_light;exact⟨a2,e2,i,p+1,j++ [i],nB,am,jk,by show _=_;rw[Aj,HP.out];rfl,a6.out,ar.out,aq.out,al.out.1,al.out.2⟩
   ·have g2:(er==0)=false:=qj;have aw:=hid (HE.out he);have az:=hid he;clear he HT HE;go_wp2_with fail;refine DE.out.mono ?_;rintro e w2 ⟨rfl,rfl⟩;go_wp2_with fail;go_ret;rw[aw.out];refine⟨_,j,rfl,oD,oF,HC.out,ah.out.trans (Jf HK.out fun x hx=>⟨mW,hx.2⟩),fun h=>absurd h az.out⟩
  ·obtain rfl:p=n:=by omega
   have HF:Hid (a1=T.2.1/\er=T.2.2/\(T.2.2=0->j=T.1)):=by
    by_cases he:er=0
    ·subst he;have h:=HT.out rfl;rw[Gl,Gb]at h;rw[<-h];exact⟨rfl,rfl,fun _=>rfl⟩
    ·have h:=HE.out he;rw[h];exact⟨rfl,rfl,fun h0=>absurd h0 he⟩
   have g1:=jb ((p:Int)<p);clear HT HE;go_wp2_with fail;go_ret;refine⟨_,j,rfl,oD,oF,by rw[<-HF.out.1,<-HF.out.2.1];exact HC.out,ah.out.trans (Jf HK.out fun x hx=>⟨mW,hx.2⟩),HF.out.2.2⟩
def Iz(m:Nat)(bs:List Nat)(at_:Nat):Nat×Nat×Nat×Int:=
 (GQ bs at_ 0,Bh m bs (takeA bs at_ 0 1) (Cj bs at_ 0 1),AR m bs (takeA bs at_ 0 1) (Cj bs at_ 0 1),AU m bs (takeA bs at_ 0 1) (Cj bs at_ 0 1))
def KR(acc:List Nat)(o:Nat×Nat×Nat×Int):Int:=if o.2.2.2≠0 then o.2.2.2 else if o.2.1=0∨acc.getLast?=some o.1 then 2 else 0
def FL:Nat->Nat->List Nat->Nat->List Nat->List Nat×Nat×Int
 |0,_,_,at_,acc=>(acc,at_,0)
 |f+1,n,bs,at_,acc=>if n<=acc.length then(acc,at_,0)else if KR acc (Iz (n-acc.length) bs at_)≠0 then([],(Iz (n-acc.length) bs at_).2.2.1,KR acc (Iz (n-acc.length) bs at_))else
  FL f n bs (Iz (n-acc.length) bs at_).2.2.1 (acc++List.replicate (Iz (n-acc.length) bs at_).2.1 (Iz (n-acc.length) bs at_).1)
theorem mL{bs:List Nat}(h8:∀x∈bs,x<=255)(at_:Nat)(er:Int)(h:AU m bs at_ er≠0):Bh m bs at_ er=0:=by
 unfold AU at h;unfold Bh;by_cases he:er=0
 ·rw[Ae (by simp[he])]at h;rw[Ae (by simp[he])];exact((Hv m (bs.drop at_) fun x hx=>h8 x (Cg hx)).2.2.2.1 h).1
 ·rw[Ag he]
theorem TR{f:Nat}{bs:List Nat}{at_:Nat}{i:List Nat}(h:n<=i.length):FL f n bs at_ i=(i,at_,0):=by
 cases f with
 |zero=>rfl
 |succ f=>exact Ag h
def GE(w:World)(g:Nat):Int:=intOf ((w.cell? ⟨g,2,none⟩).getD (.int .i64 0))
theorem lU:(prog.info? 5).map (fun i=>(i.zero,i.size,i.bytes))=some (some (.int .u8 0),1,1):=ni
def RQ(w:World)(n g base:Nat)(bs:List Nat)(A:Option Addr)(c:Nat)(T:List Nat×Nat×Int)(e:Ending)(w':World):Prop:=
 ∃v acc,e= .returned v/\acc.length<=n/\w'.ownsRow w 5 1 v acc.length (bZ .u8 acc)/\Cur w' g base bs A c T.2.1 T.2.2/\Kept (BL g w) w w'/\(T.2.2=0->acc=T.1)
theorem ZW(w:World)(g base:Nat)(bs:List Nat)(A:Option Addr)(c at_ n:Nat)(ay:Int)(bu:bs.length<=100000)(h8:∀x∈bs,x<=255)(hn:n<=20000)(h:Cur w g base bs A c at_ ay):
 Calls prog 194 #[.agg #[.pointer (some ⟨g,0,none⟩)], .int .i64 (n:Nat)] w (RQ w n g base bs A c (if ay≠0 then([],at_,ay)else FL n n bs at_ [])):=by
 obtain⟨j0,bi,bc,bg,bh⟩:=info_parts lU;obtain⟨T,hT⟩:=jc (if ay≠0 then([],at_,ay)else FL n n bs at_ [])
 rw[<-hT];have bp:Hid ((ay=0->∃f,n<=f+0/\FL f n bs at_ []=T)/\(ay≠0->T=([],at_,ay))):=⟨fun h=>⟨n,Am _,by rw[hT,Ae p8]⟩,fun h=>by rw[hT,Ag h]⟩;have H8:=hid h8;have bW:=hid bu;have cf:=h.blk.lt;have H:=hid h;have bd:Hid (∀y,(Value.slice A bs.length c).ownBlock=some y->y<w.heap.size):=fun y hy=>(Ai h.own y hy).2;unfold RQ;clear h h8 hT bu;go_enter func194,ntmps194;go_wp2_with fail;have bM:=H.out.step (w':=w.alloc (.cells #[.pointer (some ⟨g,0,none⟩)] 249)) (cZ (Ak _ _));have bk:Blk (w.alloc (.cells #[.pointer (some ⟨g,0,none⟩)] 249)) w 249 #[.pointer (some ⟨g,0,none⟩)]:=Blk.made _ _ _;have bl:Kept (BL g w) w (w.alloc (.cells #[.pointer (some ⟨g,0,none⟩)] 249)):=Kept.of_below (B:=w.heap.size) (cZ (Ak _ _)) (fun x hx=>hx.1);generalize w.alloc (.cells #[.pointer (some ⟨g,0,none⟩)] 249)=w1 at *;have z1:=bl.size;have b7:=bk.lt;have b5:=hid bM;have b4:=hid bk;have bO:=hid bl;have bt:w.heap.size≠g:=nB
 clear bM bk bl H;go_loopw [5] (fun v wr=>∃ (a1:Nat) (er:Int) (p:Nat) (j:List Nat),p<=n/\Hid (j.length=p)/\Hid (Cur wr g base bs A c a1 er)/\Hid (wr.ownsRow w1 5 1 v p (bZ .u8 j))/\Hid (Kept (fun x=>x<w1.heap.size/\x≠g) w1 wr)/\Hid (er=0->∃f,n<=f+p/\FL f n bs a1 j=T)/\Hid (er≠0->T=([],a1,er))) (fun v wr=>(n-lenS v)+if GE wr g=0 then 1 else 0)
 case atStart=>exact⟨at_,ay,0,[],nB,rfl,b5.out,AE _ _ _ _,Kept.refl _ _,bp.out.1,bp.out.2⟩
 case round=>
  obtain⟨a1,er,p,j,hp,HP,HC,HO,HK,HT,HE⟩:=hrel;have zk:=HK.out.size;obtain⟨va,vc,rfl⟩:=aZ HO.out;have xb:Blk wr w 249 #[.pointer (some ⟨g,0,none⟩)]:=(HK.out.block _ ⟨b7,bt⟩).trans b4.out;have x0:=xb.iy 0;have XB:=hid xb;have ba:Hid (GE wr g=er):=by show _=_;unfold GE;rw[HC.out.cells.2.2];rfl
  clear xb bp;by_cases cg:p<n
  ·have g1:=ja ((p:Int)<n);have ca:=ja (p<n);have DE:=hid (Ej wr g base bs A c a1 er HC.out);by_cases he:er=0
   ·subst he;obtain⟨f,hf,a6⟩:=HT.out rfl;obtain⟨f,rfl⟩:∃f',f=f'+1:=⟨f-1,nB⟩;rw[FL,Ae (by rw[HP.out];omega),HP.out]at a6;obtain⟨m,hm⟩:=jc (n-p);have sm:IntKind.i64.wrap ((n:Int)-(p:Int))=(m:Int):=nX;rw[<-hm]at a6;have cl:=hid hm;have cd:p+m<=n/\m<=20000:=nB;clear hm;have D1:=hid (fun wx hx=>Uq wx g base bs A c a1 0 bW.out hx);have ci:Bh m bs (takeA bs a1 0 1) (Cj bs a1 0 1)<=m:=Gr H8.out _ _;have cj:Hid (AU m bs (takeA bs a1 0 1) (Cj bs a1 0 1)≠0->Bh m bs (takeA bs a1 0 1) (Cj bs a1 0 1)=0):=mL H8.out _ _;unfold KR Iz at a6;simp only at a6;have D2:=hid (fun wx hx=>I5 wx g base bs A c (takeA bs a1 0 1) (Cj bs a1 0 1) m bW.out H8.out nB hx);generalize GQ bs a1 0=x at *;generalize takeA bs a1 0 1=b1 at *;generalize Cj bs a1 0 1=d1 at *;generalize Bh m bs b1 d1=k at *;generalize AR m bs b1 d1=a2 at *;generalize AU m bs b1 d1=e2 at *;have a0:k<=100000:=nB;have DR:=hid (fun wx gx cx y kk hkk hb=>aH wx gx cx y kk hkk hb);have ar:=hid a6;have HF:=hid hf;clear a6 HT HE hf;go_wp2_with fail;refine DE.out.mono ?_;rintro e w2 ⟨rfl,rfl⟩;go_wp2_with fail;refine(D1.out _ HC.out).mono ?_;rintro e w3 ⟨rfl,bC,be⟩;have z3:=be.size;have bX:=hid bC;have bF:Hid (w3.ownsRow w1 5 1 (.slice va p vc) p (bZ .u8 j)):=Nv HO.out nB be;have bG:Hid (Kept (fun x=>x<w1.heap.size/\x≠g) w1 w3):=Pf HK.out zk be;have bn:=hid (Nr XB.out bt be);have x3:=bn.out.iy 0;clear bC be x0 HC HO HK DE D1 XB;go_wp2_with fail;refine(D2.out _ bX.out).mono ?_;rintro e w4 ⟨rfl,bS,a9⟩;have z4:=a9.size;have ak:=hid bS;have ab:Hid (w4.ownsRow w1 5 1 (.slice va p vc) p (bZ .u8 j)):=Nv bF.out nB a9;have al:Hid (Kept (fun x=>x<w1.heap.size/\x≠g) w1 w4):=Pf bG.out nB a9;have bm:=hid (Nr bn.out bt a9);have x4:=bm.out.iy 0;have b3:=hid (Ej w4 g base bs A c a2 e2 ak.out);clear bS a9 x3 bX bF bG D2 bn;go_wp2_with fail;refine b3.out.mono ?_;rintro e w5 ⟨rfl,rfl⟩;by_cases a4:e2=0
    ·subst a4;have Z:=ar.out;rw[Ae (show ¬((0:Int)≠0) from fun h=>h rfl)]at Z;by_cases a3:k=0
     ·have gk:((k:Int)==0)=true:=(by rw[a3];rfl);obtain⟨i,J⟩:=jc (Gq 0 2);have ag:i=2:=J.trans (Ag rfl);have ai:Hid ((i=0->∃f',n<=f'+(p+k)/\FL f' n bs a2 (j++List.replicate k x)=T)/\(i≠0->T=([],a2,i))):=⟨fun h=>absurd (ag.symm.trans h) ji,fun _=>by rw[Ag (Or.inl a3),Ag ji]at Z;rw[ag];exact Z.symm⟩;have au:Hid (n-(p+k)+(if i=0 then 1 else 0)<n-p+1):=(by show _<_;rw[Ae (by rw[ag];decide)];omega);have DF:=hid (Hf w5 g base bs A c a2 0 2 ak.out);rw[<-J]at DF;clear Z ag J ar a3;go_wp2_with fail;refine DF.out.mono ?_;rintro e w6 ⟨rfl,bb,a5⟩;have N:Hid (w6.ownsRow w1 5 1 _ p (bZ .u8 j)):=eZ ab.out (fun z hz=>a5.block z (by have:=(Ai ab.out z hz).1;omega));have L:Hid (Kept (fun x=>x<w1.heap.size/\x≠g) w1 w6):=al.out.trans (Jf a5 fun z hz=>hz.2);have af:=hid bb;clear ab al ak a5 bb DF bm x4 z4;obtain⟨w5,rfl⟩:=jc w6;have z5:=L.out.size;go_wp2_with fail;have bq:Blk (w5.alloc (.cells #[.int .u8 (x:Nat)] 5)) w5 5 #[.int .u8 (x:Nat)]:=Blk.made _ _ _;refine(DR.out _ _ _ x k a0 bq).mono ?_;rintro e w6 ⟨v6,rfl,U,G⟩;obtain⟨A6,c6,rfl⟩:=aZ U;have z6:=G.size;simp at z6;have ax:Hid (Src w6 A6 k c6 1 (bZ .u8 (List.replicate k x))):=Li U;have ac:Hid (w6.ownsRow w1 5 1 _ p (bZ .u8 j)):=eZ (N.out.alloc _) (fun y hy=>G.block y mz);have ae:Cur w6 g base bs A c a2 i:=af.out.step ((cZ (Ak _ _)).trans (G.mono pR));have aa:Hid (Kept (fun x=>x<w1.heap.size/\x≠g) w1 w6):=L.out.trans (Kept.of_below ((cZ (Ak _ _)).trans (G.mono pR)) (fun y hy=>by have:=hy.1;omega));have aq:=hid ae;clear U G bq ae af N L DR;go_wp2_with(at_builtin;refine fZ rfl (.tmp 54) (.tmp 58) 28 rfl w1 5 j0 _ 1 1 underlying28 bi bc bg bh rfl ji _ _ _ nC ac.out _ _ _ _ nC ax.out (qZ _ _) qn nB nB ?_;intro v7 w7 E Y ah);obtain⟨A7,c7,rfl⟩:=aZ E;have Q:=fun(y:Nat) hy=>(Ai ac.out y hy).1;have z7:=aa.out.size;have M:Cur w7 g base bs A c a2 i:=J2 aq.out Y w1 nB (fun y hy=>by have:=bd.out y hy;omega) Q;have aw:Hid (Kept (fun x=>x<w1.heap.size/\x≠g) w1 w7):=aa.out.grown Y (fun y hy=>by have:=hy.1;omega) (fun y hy hh=>by have:=Q y hy;have:=hh.1;omega);have an:Hid (w7.ownsRow w1 5 1 (.slice A7 (p+k) c7) (p+k) (bZ .u8 (j++List.replicate k x))):=pD;have av:=hid M;have am:Hid (GE w7 g=i):=pN;clear E Y ah Q M;go_roundw
      case measure=>exact lc
      case rel=>exact jp
     ·have gk:((k:Int)==0)=false:=oi;have ch:(k==0)=false:=oi;by_cases bN:p=0
      ·have gp:=jb ((0:Int)<p);have b8:=jb (0<p);have bf:¬(k=0∨j.getLast?=some x):=fun h=>h.elim a3 (fun h=>by rw[Hl (HP.out.trans bN)]at h;cases h);obtain⟨i,J⟩:∃i:Int,i=0:=⟨_,rfl⟩;have ai:Hid ((i=0->∃f',n<=f'+(p+k)/\FL f' n bs a2 (j++List.replicate k x)=T)/\(i≠0->T=([],a2,i))):=⟨fun _=>⟨f,mP,by rw[Ae bf,Ae (show ¬((0:Int)≠0) from fun h=>h rfl)]at Z;exact Z⟩,fun h=>absurd J h⟩;have au:Hid (n-(p+k)+(if i=0 then 1 else 0)<n-p+1):=(by show _<_;rw[Ag J];omega);have aj:Hid (Cur w5 g base bs A c a2 i):=(by rw[J];exact ak.out);clear Z J ar a3 bf bN;have af:=aj;have N:=ab;have L:=al;clear ak ab al aj;have z5:=L.out.size;go_wp2_with fail;have bq:Blk (w5.alloc (.cells #[.int .u8 (x:Nat)] 5)) w5 5 #[.int .u8 (x:Nat)]:=Blk.made _ _ _;refine(DR.out _ _ _ x k a0 bq).mono ?_;rintro e w6 ⟨v6,rfl,U,G⟩;obtain⟨A6,c6,rfl⟩:=aZ U;have z6:=G.size;simp at z6;have ax:Hid (Src w6 A6 k c6 1 (bZ .u8 (List.replicate k x))):=Li U;have ac:Hid (w6.ownsRow w1 5 1 _ p (bZ .u8 j)):=eZ (N.out.alloc _) (fun y hy=>G.block y mz);have ae:Cur w6 g base bs A c a2 i:=af.out.step ((cZ (Ak _ _)).trans (G.mono pR));have aa:Hid (Kept (fun x=>x<w1.heap.size/\x≠g) w1 w6):=L.out.trans (Kept.of_below ((cZ (Ak _ _)).trans (G.mono pR)) (fun y hy=>by have:=hy.1;omega));have aq:=hid ae;clear U G bq ae af N L DR;go_wp2_with(at_builtin;refine fZ rfl (.tmp 54) (.tmp 58) 28 rfl w1 5 j0 _ 1 1 underlying28 bi bc bg bh rfl ji _ _ _ nC ac.out _ _ _ _ nC ax.out (qZ _ _) qn nB nB ?_;intro v7 w7 E Y ah);obtain⟨A7,c7,rfl⟩:=aZ E;have Q:=fun(y:Nat) hy=>(Ai ac.out y hy).1;have z7:=aa.out.size;have M:Cur w7 g base bs A c a2 i:=J2 aq.out Y w1 nB (fun y hy=>by have:=bd.out y hy;omega) Q;have aw:Hid (Kept (fun x=>x<w1.heap.size/\x≠g) w1 w7):=aa.out.grown Y (fun y hy=>by have:=hy.1;omega) (fun y hy hh=>by have:=Q y hy;have:=hh.1;omega);have an:Hid (w7.ownsRow w1 5 1 (.slice A7 (p+k) c7) (p+k) (bZ .u8 (j++List.replicate k x))):=pD;have av:=hid M;have am:Hid (GE w7 g=i):=pN;clear E Y ah Q M;go_roundw
       case measure=>exact lc
       case rel=>exact jp
      ·obtain⟨gq,cq,b0,b9,_⟩:=ab.out.form nB;injection b0 with e1 e2 e3;subst e1 e3;obtain⟨y,hy⟩:∃y,j[p-1]? =some y:=⟨_,AD (by have:=HP.out;omega)⟩;have az:j.getLast?=some y:=by rw[List.getLast?_eq_getElem?,HP.out];exact hy
       have cy:w5.cell? ⟨gq,p-1,none⟩=some (.int .u8 (y:Nat)):=(by rw[ab.out.cellAt (p-1) nB];unfold bZ;rw[BR,hy];rfl);obtain⟨p1,bU⟩:=jc (p-1);rw[<-bU]at cy;have sp:IntKind.i64.wrap ((p:Int)-1)=(p1:Int):=nX;have gp:=ja ((0:Int)<p);have b8:=ja (0<p);have cc:(0:Int)<=(p1:Int):=nB;have ce:(p1:Int)<(p:Int):=nB;clear hy bU;by_cases bj:y=x
       ·have gx:((y:Int)==(x:Int))=true:=(by rw[bj];simp);rw[bj]at az;clear bj;obtain⟨i,J⟩:=jc (Gq 0 2);have ag:i=2:=J.trans (Ag rfl);have ai:Hid ((i=0->∃f',n<=f'+(p+k)/\FL f' n bs a2 (j++List.replicate k x)=T)/\(i≠0->T=([],a2,i))):=⟨fun h=>absurd (ag.symm.trans h) ji,fun _=>by rw[Ag (Or.inr az),Ag ji]at Z;rw[ag];exact Z.symm⟩;have au:Hid (n-(p+k)+(if i=0 then 1 else 0)<n-p+1):=(by show _<_;rw[Ae (by rw[ag];decide)];omega);have DF:=hid (Hf w5 g base bs A c a2 0 2 ak.out);rw[<-J]at DF;clear Z ag J ar az a3;go_wp2_with fail;refine DF.out.mono ?_;rintro e w6 ⟨rfl,bb,a5⟩;clear cy;have N:Hid (w6.ownsRow w1 5 1 _ p (bZ .u8 j)):=eZ ab.out (fun z hz=>a5.block z (by have:=(Ai ab.out z hz).1;omega));have L:Hid (Kept (fun x=>x<w1.heap.size/\x≠g) w1 w6):=al.out.trans (Jf a5 fun z hz=>hz.2);have af:=hid bb;clear ab al ak a5 bb DF bm x4 z4;obtain⟨w5,rfl⟩:=jc w6;have z5:=L.out.size;go_wp2_with fail;have bq:Blk (w5.alloc (.cells #[.int .u8 (x:Nat)] 5)) w5 5 #[.int .u8 (x:Nat)]:=Blk.made _ _ _;refine(DR.out _ _ _ x k a0 bq).mono ?_;rintro e w6 ⟨v6,rfl,U,G⟩;obtain⟨A6,c6,rfl⟩:=aZ U;have z6:=G.size;simp at z6;have ax:Hid (Src w6 A6 k c6 1 (bZ .u8 (List.replicate k x))):=Li U;have ac:Hid (w6.ownsRow w1 5 1 _ p (bZ .u8 j)):=eZ (N.out.alloc _) (fun y hy=>G.block y mz);have ae:Cur w6 g base bs A c a2 i:=af.out.step ((cZ (Ak _ _)).trans (G.mono pR));have aa:Hid (Kept (fun x=>x<w1.heap.size/\x≠g) w1 w6):=L.out.trans (Kept.of_below ((cZ (Ak _ _)).trans (G.mono pR)) (fun y hy=>by have:=hy.1;omega));have aq:=hid ae;clear U G bq ae af N L DR;go_wp2_with(at_builtin;refine fZ rfl (.tmp 54) (.tmp 58) 28 rfl w1 5 j0 _ 1 1 underlying28 bi bc bg bh rfl ji _ _ _ nC ac.out _ _ _ _ nC ax.out (qZ _ _) qn nB nB ?_;intro v7 w7 E Y ah);obtain⟨A7,c7,rfl⟩:=aZ E;have Q:=fun(y:Nat) hy=>(Ai ac.out y hy).1;have z7:=aa.out.size;have M:Cur w7 g base bs A c a2 i:=J2 aq.out Y w1 nB (fun y hy=>by have:=bd.out y hy;omega) Q;have aw:Hid (Kept (fun x=>x<w1.heap.size/\x≠g) w1 w7):=aa.out.grown Y (fun y hy=>by have:=hy.1;omega) (fun y hy hh=>by have:=Q y hy;have:=hh.1;omega);have an:Hid (w7.ownsRow w1 5 1 (.slice A7 (p+k) c7) (p+k) (bZ .u8 (j++List.replicate k x))):=pD;have av:=hid M;have am:Hid (GE w7 g=i):=pN;clear E Y ah Q M;go_roundw
        case measure=>exact lc
        case rel=>exact jp
       ·have gx:((y:Int)==(x:Int))=false:=oi;obtain⟨i,J⟩:∃i:Int,i=0:=⟨_,rfl⟩;have bf:¬(k=0∨j.getLast?=some x):=fun h=>h.elim a3 (fun h=>by rw[az]at h;injection h with h;exact bj h);have ai:Hid ((i=0->∃f',n<=f'+(p+k)/\FL f' n bs a2 (j++List.replicate k x)=T)/\(i≠0->T=([],a2,i))):=⟨fun _=>⟨f,mP,by rw[Ae bf,Ae pR]at Z;exact Z⟩,fun h=>absurd J h⟩;have au:Hid (n-(p+k)+(if i=0 then 1 else 0)<n-p+1):=(by show _<_;rw[Ag J];omega);have aj:Hid (Cur w5 g base bs A c a2 i):=(by rw[J];exact ak.out);clear Z J ar az bf bj a3;have af:=aj;have N:=ab;have L:=al;clear ak ab al aj;have z5:=L.out.size;go_wp2_with fail;have bq:Blk (w5.alloc (.cells #[.int .u8 (x:Nat)] 5)) w5 5 #[.int .u8 (x:Nat)]:=Blk.made _ _ _;refine(DR.out _ _ _ x k a0 bq).mono ?_;rintro e w6 ⟨v6,rfl,U,G⟩;obtain⟨A6,c6,rfl⟩:=aZ U;have z6:=G.size;simp at z6;have ax:Hid (Src w6 A6 k c6 1 (bZ .u8 (List.replicate k x))):=Li U;have ac:Hid (w6.ownsRow w1 5 1 _ p (bZ .u8 j)):=eZ (N.out.alloc _) (fun y hy=>G.block y mz);have ae:Cur w6 g base bs A c a2 i:=af.out.step ((cZ (Ak _ _)).trans (G.mono pR));have aa:Hid (Kept (fun x=>x<w1.heap.size/\x≠g) w1 w6):=L.out.trans (Kept.of_below ((cZ (Ak _ _)).trans (G.mono pR)) (fun y hy=>by have:=hy.1;omega));have aq:=hid ae;clear U G bq ae af N L DR;go_wp2_with(at_builtin;refine fZ rfl (.tmp 54) (.tmp 58) 28 rfl w1 5 j0 _ 1 1 underlying28 bi bc bg bh rfl ji _ _ _ nC ac.out _ _ _ _ nC ax.out (qZ _ _) qn nB nB ?_;intro v7 w7 E Y ah);obtain⟨A7,c7,rfl⟩:=aZ E;have Q:=fun(y:Nat) hy=>(Ai ac.out y hy).1;have z7:=aa.out.size;have M:Cur w7 g base bs A c a2 i:=J2 aq.out Y w1 nB (fun y hy=>by have:=bd.out y hy;omega) Q;have aw:Hid (Kept (fun x=>x<w1.heap.size/\x≠g) w1 w7):=aa.out.grown Y (fun y hy=>by have:=hy.1;omega) (fun y hy hh=>by have:=Q y hy;have:=hh.1;omega);have an:Hid (w7.ownsRow w1 5 1 (.slice A7 (p+k) c7) (p+k) (bZ .u8 (j++List.replicate k x))):=pD;have av:=hid M;have am:Hid (GE w7 g=i):=pN;clear E Y ah Q M;go_roundw
        case measure=>exact lc
        case rel=>exact jp
    ·have gE:(e2==0)=false:=(by simpa using a4);have Z:=ar.out;rw[Ag a4,Ag a4]at Z;have ai:Hid ((e2=0->∃f',n<=f'+(p+k)/\FL f' n bs a2 (j++List.replicate k x)=T)/\(e2≠0->T=([],a2,e2))):=⟨fun h=>absurd h a4,fun _=>Z.symm⟩;have au:Hid (n-(p+k)+(if e2=0 then 1 else 0)<n-p+1):=(by show _<_;rw[Ae a4];omega);have aj:Hid (Cur w5 g base bs A c a2 e2):=ak.out;clear Z ar a4;obtain⟨i,rfl⟩:=jc e2;have af:=aj;have N:=ab;have L:=al;clear ak ab al aj;have z5:=L.out.size;go_wp2_with fail;have bq:Blk (w5.alloc (.cells #[.int .u8 (x:Nat)] 5)) w5 5 #[.int .u8 (x:Nat)]:=Blk.made _ _ _;refine(DR.out _ _ _ x k a0 bq).mono ?_;rintro e w6 ⟨v6,rfl,U,G⟩;obtain⟨A6,c6,rfl⟩:=aZ U;have z6:=G.size;simp at z6;have ax:Hid (Src w6 A6 k c6 1 (bZ .u8 (List.replicate k x))):=Li U;have ac:Hid (w6.ownsRow w1 5 1 _ p (bZ .u8 j)):=eZ (N.out.alloc _) (fun y hy=>G.block y mz);have ae:Cur w6 g base bs A c a2 i:=af.out.step ((cZ (Ak _ _)).trans (G.mono pR));have aa:Hid (Kept (fun x=>x<w1.heap.size/\x≠g) w1 w6):=L.out.trans (Kept.of_below ((cZ (Ak _ _)).trans (G.mono pR)) (fun y hy=>by have:=hy.1;omega));have aq:=hid ae;clear U G bq ae af N L DR;go_wp2_with(at_builtin;refine fZ rfl (.tmp 54) (.tmp 58) 28 rfl w1 5 j0 _ 1 1 underlying28 bi bc bg bh rfl ji _ _ _ nC ac.out _ _ _ _ nC ax.out (qZ _ _) qn nB nB ?_;intro v7 w7 E Y ah);obtain⟨A7,c7,rfl⟩:=aZ E;have Q:=fun(y:Nat) hy=>(Ai ac.out y hy).1;have z7:=aa.out.size;have M:Cur w7 g base bs A c a2 i:=J2 aq.out Y w1 nB (fun y hy=>by have:=bd.out y hy;omega) Q;have aw:Hid (Kept (fun x=>x<w1.heap.size/\x≠g) w1 w7):=aa.out.grown Y (fun y hy=>by have:=hy.1;omega) (fun y hy hh=>by have:=Q y hy;have:=hh.1;omega);have an:Hid (w7.ownsRow w1 5 1 (.slice A7 (p+k) c7) (p+k) (bZ .u8 (j++List.replicate k x))):=pD;have av:=hid M;have am:Hid (GE w7 g=i):=pN;clear E Y ah Q M;go_roundw
     case measure=>exact lc
     case rel=>exact jp
   ·have g2:(er==0)=false:=qj;have ar:=hid (HE.out he);have b6:=hid he;clear he HT HE;go_wp2_with fail;refine DE.out.mono ?_;rintro e w2 ⟨rfl,rfl⟩;go_wp2_with fail;go_ret;rw[ar.out];refine⟨_,j,rfl,oD,oF,HC.out,bO.out.trans (Jf HK.out fun x hx=>⟨mW,hx.2⟩),fun h=>absurd h b6.out⟩
  ·obtain rfl:p=n:=by omega
   have HF:Hid (a1=T.2.1/\er=T.2.2/\(T.2.2=0->j=T.1)):=by
    by_cases he:er=0
    ·subst he;obtain⟨f,_,h⟩:=HT.out rfl;rw[TR (by rw[HP.out];exact Am _)]at h;rw[<-h];exact⟨rfl,rfl,fun _=>rfl⟩
    ·have h:=HE.out he;rw[h];exact⟨rfl,rfl,fun h0=>absurd h0 he⟩
   have g1:=jb ((p:Int)<p);clear HT HE;go_wp2_with fail;go_ret;refine⟨_,j,rfl,oD,oF,by rw[<-HF.out.1,<-HF.out.2.1];exact HC.out,bO.out.trans (Jf HK.out fun x hx=>⟨mW,hx.2⟩),HF.out.2.2⟩
end Recs
namespace Recs
open Go.RowKit Mem Own Canon NumPut Nums
def Kk(n:Nat)(bs:List Nat)(T:List Nat×Nat×Int):List Nat×Nat×Int:=if T.2.2≠0 then([],T.2.1,T.2.2)else FL n n bs T.2.1 []
def Mo(T L:List Nat×Nat×Int):List Nat×List Nat×Nat×Int:=if L.2.2≠0 then([],[],0,L.2.2)else(T.1,L.1,L.2.1,0)
def ED(n:Nat)(bs:List Nat):List Nat×List Nat×Nat×Int:=Mo (Gb n bs 0 0 []) (Kk n bs (Gb n bs 0 0 []))
theorem lA{bs:List Nat}{T:List Nat×Nat×Int}(h:(Kk n bs T).2.2=0):T.2.2=0:=by
 by_cases e:T.2.2=0
 ·exact e
 ·unfold Kk at h;rw[Ag e]at h;exact h
theorem Vz{fn:Func}{t u v x:Tmp}(h:fn.results=#[.tmp t, .tmp u, .tmp v, .tmp x])(i:Array Value)(P:Program)(w:World):
 (results fn i).run P w= .ok (.tuple #[i.getD t undef,i.getD u undef,i.getD v undef,i.getD x undef]) w:=by
 simp[results,h]
def PY(R:List Nat×List Nat×Nat×Int)(w:World)(e:Ending)(w':World):Prop:=
 ∃vt vl,e= .returned (.tuple #[vt,vl, .int .i64 (R.2.2.1:Nat),R.2.2.2])/\w'.ownsRow w 41 1 vt R.1.length (bZ .u64 R.1)/\w'.ownsRow w 5 1 vl R.2.1.length (bZ .u8 R.2.1)/\Below w w w'
theorem kV(w:World)(A:Option Addr)(n c:Nat)(bs:List Nat)(k:Nat)(hn:bs.length=n)(ai:n<=100000)(h8:∀x∈bs,x<=255)(M:A=none->n=0/\c=0)(ha:Row w w A n 1 (kZ .u8 bs))(hk:k<=20000):
 Calls prog 116 #[.int .i64 (k:Nat), .slice A n c] w (PY (ED k bs) w):=by
 have D0:=hid (new_any w A n c bs hn ai M ha);have N:bs.length<=100000:=nB
 have D1:=hid (fun wx g base B d h=>gO wx g base bs B d 0 k N h8 hk h);have D2:=hid (fun wx g base B d at_ er h=>ZW wx g base bs B d at_ k er N h8 hk h);have a4:=jb ((k:Int)<0)
 have a6:=jb ((20000:Int)<k)
 have a1:=jb (20000<k)
 unfold ED;obtain⟨T,hT⟩:=jc (Gb k bs 0 0 []);rw[<-hT]at D1 ⊢;have aa:=hid (fun h=>lA (n:=k) (bs:=bs) (T:=T) h);have HL:Hid (∀at_ er,at_=T.2.1->er=T.2.2->(if er≠0 then([],at_,er)else FL k k bs at_ [])=Kk k bs T):=fun at_ er h1 h2=>by subst h1 h2;rfl
 unfold PY;clear hn M ha h8 ai hT;generalize Kk k bs T=L at *;obtain⟨tl,ta,te⟩:=T;obtain⟨ll,la,le⟩:=L;simp only at *;go_enter func116,ntmps116;go_wp2_with fail;refine D0.out.mono ?_;rintro e w1 ⟨g,B,d,rfl,E,ae⟩;have z1:=ae.size;have a9:=E.blk.lt;have a5:=E.lo;have av:=hid E;have aq:=hid ae;clear E ae D0;go_wp2_with fail;have Y:=av.out.step (w':=w1.alloc (.cells #[.pointer (some ⟨g,0,none⟩)] 249)) qo;have al:Blk (w1.alloc (.cells #[.pointer (some ⟨g,0,none⟩)] 249)) w1 249 #[.pointer (some ⟨g,0,none⟩)]:=Blk.made _ _ _;have Z:Below w w (w1.alloc (.cells #[.pointer (some ⟨g,0,none⟩)] 249)):=mZ z1 aq.out;generalize w1.alloc (.cells #[.pointer (some ⟨g,0,none⟩)] 249)=w2 at *;have z2:=Z.size;have ax:w1.heap.size≠g:=nB
 have a3:=Y.blk.lt;have az:=hid al;have an:=hid Z;have DT:=hid (D1.out w2 g w B d Y);clear Y al Z av aq D1;refine DT.out.mono ?_;rintro e w3 ⟨vt,i,rfl,ba,af,aj,G,ar⟩;obtain⟨At,ct,rfl⟩:=aZ af;have U:=hid (Nr az.out ax G);have x3:=U.out.iy 0;have J:=hid af;have z3:=G.size;have au:Hid (Below w w w3):=an.out.trans (G.below fun b h=>⟨nB,nB⟩);have ah:=hid ar;have DL:=hid (D2.out w3 g w B d ta te aj);rw[HL.out ta te rfl rfl]at DL;clear af aj G ar DT az an D2 HL;go_wp2_with fail;refine DL.out.mono ?_;rintro e w4 ⟨vl,am,rfl,bb,ab,ac,j,Q⟩;obtain⟨Al,cl,rfl⟩:=aZ ab;have a0:=hid (Nr U.out ax j);have x4:=a0.out.iy 0;have z4:=j.size;have aw:Hid (w4.ownsRow w 41 1 (.slice At i.length ct) i.length (bZ .u64 i)):=lZ (Nv J.out a3 j) z2;have ak:=hid (lZ ab (by omega:w.heap.size<=w3.heap.size));have ay:Hid (Below w w w4):=au.out.trans (j.below fun b h=>⟨nB,nB⟩);have ag:=hid Q;have DE:=hid (Ej w4 g w bs B d la le ac);have DA:=hid (JK w4 g w bs B d la le ac);clear ab ac j Q DL U J au x3;go_wp2_with fail;refine DE.out.mono ?_;rintro e w5 ⟨rfl,rfl⟩;by_cases he:le=0
 ·subst he;have et:=ah.out (aa.out rfl);have el:=ag.out rfl;have hR:Mo (tl,ta,te) (ll,la,0)=(i,am,la,0):=by rw[et,el];exact Ae (by simp)
  have HR:=hid hR;clear et el hR ah ag aa;go_wp2_with fail;refine DA.out.mono ?_;rintro e w6 ⟨rfl,rfl⟩;go_wp2_with fail;rw[HR.out];refine Df (Vz rfl _ _ _) rfl ?_;exact⟨_,_,rfl,aw.out,ak.out,ay.out⟩
 ·have g1:(le != 0)=true:=by simpa using he
  have HR:Hid (Mo (tl,ta,te) (ll,la,le)=([],[],0,le)):=Ag he;clear he ah ag aa;go_wp2_with fail;rw[HR.out];refine Df (Vz rfl _ _ _) rfl ?_;exact⟨_,_,rfl,AE _ _ _ _,AE _ _ _ _,ay.out⟩
end Recs
namespace Body
open Go.RowKit Mem Own Canon Nums Crc Recs
def Iy(k:Nat)(ls:List Nat):Int:=if C7 ls≠0 then C7 ls else if(ED k (Bu ls)).2.2.2≠0 then(ED k (Bu ls)).2.2.2 else if(ED k (Bu ls)).2.2.1<(Bu ls).length then 2 else 0
theorem Pj(h8:∀x∈ls,x<=255):∀x∈Bu ls,x<=255:=fun x hx=>by
 unfold Bu at hx;split at hx
 ·exact h8 x (CN hx)
 ·simp at hx
theorem Pd(ls:List Nat):(Bu ls).length<=ls.length:=by
 unfold Bu;split
 ·rw[Bc];omega
 ·simp
def O9(w:World)(gb:Nat)(t:TypeId)(cs:Array Value)(k:Nat)(ls:List Nat)(e:Ending)(w':World):Prop:=
 e= .returned (.int .i64 (Iy k ls))/\Kept (fun x=>x<w.heap.size/\x≠gb) w w'/\(Iy k ls=0->∃vt vl,Blk w' gb t ((cs.setIfInBounds 4 vt).setIfInBounds 5 vl)/\w'.ownsRow w 41 1 vt (ED k (Bu ls)).1.length (bZ .u64 (ED k (Bu ls)).1)/\w'.ownsRow w 5 1 vl (ED k (Bu ls)).2.1.length (bZ .u8 (ED k (Bu ls)).2.1))
theorem Ww(w:World)(gb:Nat)(t:TypeId)(cs:Array Value)(A:Option Addr)(n c k:Nat)(ls:List Nat)(hB:Blk w gb t cs)(az:6<=cs.size)(am:41≠t)(ak:5≠t)(hn:ls.length=n)(ar:n<=100000)(hc:n<=c)(h8:∀x∈ls,x<=255)(ht:TabAt w)(ha:Row w w A n 1 (kZ .u8 ls))(hk:k<=20000):
 Calls prog 59 #[.pointer (some ⟨gb,4,none⟩), .int .i64 (k:Nat), .slice A n c] w (O9 w gb t cs k ls):=by
 have D0:=LU w A n c ls hn ar hc h8 ht ha;unfold Jb at D0;have ay:=hB.lt;have an:=Pj h8;have a0:=Pd ls;unfold O9;obtain⟨R,hR⟩:=jc (Iy k ls);rw[<-hR];unfold Iy at hR;generalize C7 ls=ce at *;generalize Bu ls=co at *;have ax:co.length<=100000:=nB
 have DR:=hid (fun wx (Ax:Option Addr) (cx:Nat) (hnx:Ax=none->co.length=0/\cx=0) (hax:Row wx wx Ax co.length 1 (kZ .u8 co))=>kV wx Ax co.length cx co k rfl nB an hnx hax hk);generalize ED k co=C at *;obtain⟨ct,cl,ck,ae⟩:=C;unfold PY at DR;simp only at hR DR;have D0:=hid D0;have HR:=hid hR;have av:=hid hB;clear hn hc h8 ht ha hR an hB;go_enter func59,ntmps59;go_wp2_with fail;refine D0.out.mono ?_;rintro e w1 ⟨v,rfl,j,M⟩;obtain⟨Ac,cc,rfl⟩:=aZ j;have G:=hid M;have al:Hid (Kept (fun x=>x<w.heap.size/\x≠gb) w w1):=Kept.of_below M (fun x hx=>hx.1);by_cases L:ce=0
 ·subst L;have hr:=HR.out;rw[Ae (show ¬((0:Int)≠0) from fun h=>h rfl)]at hr;have J:=hid hr;have D1:=hid (DR.out w1 Ac cc (Jj j) (own_row j));obtain⟨m,hm⟩:=jc co.length;rw[<-hm]at D1 hr ax;have HM:=hid hm;clear j M hr DR D0 HR;rw[<-hm];clear hm;go_wp2_with fail;refine D1.out.mono ?_;rintro e w2 ⟨vt,vl,rfl,ac,aa,ai⟩;obtain⟨At,nt,rfl⟩:=aZ ac;obtain⟨Al,nl,rfl⟩:=aZ aa;have ag:Hid (Below w w w2):=G.out.trans (ai.mono G.out.size);have E:=hid (av.out.step (ag.out));have aj:=hid (lZ ac G.out.size);have ah:=hid (lZ aa G.out.size);have Z:Hid (Kept (fun x=>x<w.heap.size/\x≠gb) w w2):=Kept.of_below ag.out (fun x hx=>hx.1);clear ac aa ai D1 G al;by_cases i:ae=0
  ·subst i;have hr:=J.out;rw[Ae (show ¬((0:Int)≠0) from fun h=>h rfl),<-HM.out]at hr;by_cases N:ck<m
   ·have g1:=ja ((ck:Int)<m);have au:=ja (ck<m);have HF:Hid (R=2):=(by rw[Ag N]at hr;exact hr);clear hr J N;go_wp2_with fail;go_ret;rw[HF.out];exact⟨rfl,Z.out,fun h=>absurd h ji⟩
   ·have g1:=jb ((ck:Int)<m);have au:=jb (ck<m);have HF:Hid (R=0):=(by rw[Ae N]at hr;exact hr);have q4:=E.out.cell 4;have q5:=E.out.cell 5;rw[LN nB]at q4 q5;generalize cs[4]=o4 at q4;generalize cs[5]=o5 at q5;have f4:=E.out.frozen 4;have f5:=E.out.frozen 5;have Y:=hid (E.out.set 4 (.slice At ct.length nt));have Q:=hid (Cb (p:=⟨gb,4,none⟩) aj.out (iZ aj.out E.out am) (.slice At ct.length nt));have U:=hid (Cb (p:=⟨gb,4,none⟩) ah.out (iZ ah.out E.out ak) (.slice At ct.length nt));have aw:=hid (Y.out.set 5 (.slice Al cl.length nl));have aq:=hid (Cb (p:=⟨gb,5,none⟩) Q.out (iZ Q.out Y.out am) (.slice Al cl.length nl));have af:=hid (Cb (p:=⟨gb,5,none⟩) U.out (iZ U.out Y.out ak) (.slice Al cl.length nl));clear hr J N;go_wp2_with fail;go_ret;rw[HF.out];exact⟨rfl,(Z.out.set (fun h=>h.2 rfl) _).set (fun h=>h.2 rfl) _,fun _=>⟨_,_,aw.out,aq.out,af.out⟩⟩
  ·have gE:(ae != 0)=true:=(by simpa using i);have HF:Hid (R=ae):=(by have h:=J.out;rw[Ag i]at h;exact h);have ab:=hid i;clear i J;go_wp2_with fail;go_ret;rw[HF.out];exact⟨rfl,Z.out,fun h=>absurd h ab.out⟩
 ·have gE:(ce != 0)=true:=by simpa using L
  have HF:Hid (R=ce):=by have h:=HR.out;rw[Ag L]at h;exact h
  have ab:=hid L;clear L HR j M DR D0;go_wp2_with fail;go_ret;rw[HF.out];exact⟨rfl,al.out,fun h=>absurd h ab.out⟩
end Body
namespace Recs
open Go.RowKit Mem Own Canon NumPut
open Block (wZ)
theorem kD(w:World)(d:Nat)(hd:d<18446744073709551616):
 Calls prog 80 #[.int .u64 d] w fun e w'=>e= .returned (.int .u64 (Gz d:Nat))/\w'=w:=by
 obtain⟨z,hz⟩:=jc (Gz d);rw[<-hz];unfold Gz at hz;by_cases h:d<9223372036854775808
 ·rw[Ag h]at hz;have g1:=jb ((9223372036854775808:Int)<=d)
  have i:=jb (9223372036854775808<=d)
  have s1:IntKind.u64.wrap (2*(d:Int))=(z:Int):=n4
  clear h hz hd;go_enter func80,ntmps80;go_wp2_with fail;go_ret;exact⟨rfl,rfl⟩
 ·rw[Ae h]at hz;have g1:=ja ((9223372036854775808:Int)<=d)
  have i:=ja (9223372036854775808<=d)
  obtain⟨y,hy⟩:=jc (18446744073709551615-d);have s0:IntKind.u64.wrap (18446744073709551615-(d:Int))=(y:Int):=n4
  have s1:IntKind.u64.wrap (2*(y:Int))=((2*y:Nat):Int):=n4
  obtain⟨x,hx⟩:=jc (2*y);rw[<-hx]at s1;have s2:IntKind.u64.wrap ((x:Int)+1)=(z:Int):=n4
  clear h hz hd hy hx;go_enter func80,ntmps80;go_wp2_with fail;go_ret;exact⟨rfl,rfl⟩
def Jd(l:List Rec)(w:World)(e:Ending)(w':World):Prop:=
 ∃v,e= .returned v/\w'.ownsRow w 5 1 v (BW l).length (bZ .u8 (BW l))/\Below w w w'
theorem Tp{t:List Nat}{j:Nat}(h:∀i,i<j->t[i]? =some x)(h2:t[j]? =some x):∀i,i<j+1->t[i]? =some x:=fun i hi=>by
 by_cases e:i<j
 ·exact h i e
 ·obtain rfl:i=j:=by omega
  exact h2
theorem Mx{l:List Rec}{r:Rec}(h:l[k]? =some r):(xZ l)[k]? =some r.level.toNat:=by unfold xZ;rw[BR,h];rfl
theorem Tz(l:List Rec):(xZ l).length=l.length:=by unfold xZ;rw[Bk]
theorem ZD{l:List Rec}{t0:Nat}{r:Rec}(hr:l[k]? =some r)(h:((Bo l).take k).getLast?.getD 0=t0):
 Cr stepT 0 ((Bo l).take (k+1))=Cr stepT 0 ((Bo l).take k)++gZ (Gz (IT r.time.toNat t0))/\((Bo l).take (k+1)).getLast?.getD 0=r.time.toNat:=by
 have e:(Bo l).take (k+1)=(Bo l).take k++ [r.time.toNat]:=by
  have hg:(Bo l)[k]? =some r.time.toNat:=by unfold Bo;rw[BR,hr];rfl
  rw[Ca,hg];rfl
 rw[e,Rz,h];exact⟨rfl,pR⟩
end Recs
namespace Recs
open Go.RowKit Mem Own Canon NumPut Nums
theorem own_far{e':TypeId}{s' n':Nat}{v v':Value}{E:List Value}(h:w.ownsRow base e s v n xs)(h2:w.ownsRow i e' s' v' n' E)(j:e'≠e)(hg:w.grownBy w' v'.ownBlock):w'.ownsRow base e s v n xs:=
 eZ h fun y hy=>hg.block y (Ai h y hy).2 fun e2=>by
  rcases EN h2 h j with e3|e3
  ·rw[e3]at e2;cases e2
  ·exact e3 (by rw[<-e2,hy])
end Recs
end Go.Proofs.YtfgdoknipbpfhaaGreatDoor
