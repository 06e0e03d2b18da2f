/- slices.Repeat of one -/
import Derived.Test.YtfgdoknipbpfhaaGreatDoorZTwoUnpacks21
import Derived.Lib.Zigzag
import Derived.Laws.CopyOwn
namespace Go.Proofs.YtfgdoknipbpfhaaGreatDoor
open Go.Proofs.Tryz
open Go.Lib (hid)
set_option maxHeartbeats 4000000
set_option maxRecDepth 100000
variable{at_ base c g i m n s:Nat}{a b w w':World}{e:TypeId}{xs:List Value}{A:Option Addr}{ls:List Nat}{er:Int}
namespace Recs
open Go.RowKit Mem Own Canon NumPut
open Crc (CX)
def FZ(z:Nat):Nat:=if z % 2=1 then 18446744073709551615-z / 2 else z / 2
theorem OI{z:Nat}(h:z<18446744073709551616):FZ z<18446744073709551616:=by unfold FZ;split<;>omega
theorem VU(w:World)(z:Nat)(hz:z<18446744073709551616):
 Calls prog 242 #[.int .u64 z] w fun e w'=>e= .returned (.int .u64 (FZ z:Nat))/\w'=w:=by
 obtain⟨y,hy⟩:=iS (FZ z);rw[<-hy];unfold FZ at hy;have ha:bits .and .u64 (z:Int) 1=((z % 2:Nat):Int):=by have h:=bits_and_u64_nat z 1 hz kR;rw[Nat.and_one_is_mod]at h;exact h
 have e:bits .xor .u64 ((z:Int) / 2) (IntKind.u64.wrap (-(bits .and .u64 (z:Int) 1)))=(y:Int):=by
  rw[ha];by_cases h:z % 2=1
  ·rw[Ab h]at hy;have e2:IntKind.u64.wrap (-((z % 2:Nat):Int))=((2 ^ 64-1:Nat):Int):=(by rw[BD,h];omega);rw[e2,show(z:Int) / 2=((z / 2:Nat):Int) by omega,bits_xor_u64_nat _ _ kR iX,Nat.xor_comm,Lib.xor_ones64 _ kR];omega
  ·rw[Aa h]at hy;have e2:IntKind.u64.wrap (-((z % 2:Nat):Int))=((0:Nat):Int):=lG;rw[e2,show(z:Int) / 2=((z / 2:Nat):Int) by omega,bits_xor_u64_nat _ _ kR iX,Nat.xor_zero];omega
 have HE:=hid e;clear hy e ha;go_enter func242,ntmps242;go_wp2_with fail;go_ret;exact⟨Ko HE.out,rfl⟩
theorem Y7(w:World)(z:Nat)(hz:z<18446744073709551616):
 Calls prog 271 #[.int .u64 z] w fun e w'=>e= .returned (.int .u64 (FZ z:Nat))/\w'=w:=by
 obtain⟨y,hy⟩:=iS (FZ z);rw[<-hy];unfold FZ at hy;obtain⟨h,hh⟩:=iS (z / 2);rw[<-hh]at hy;have s1:(z:Int) / 2=(h:Int):=by rw[hh];omega
 by_cases hc:z % 2=1
 ·rw[Ab hc]at hy;have g1:(((z:Int) % 2)==1)=true:=by simp;omega
  have s0:IntKind.u64.wrap (h:Int)=(h:Int):=lG
  have s2:IntKind.u64.wrap (18446744073709551615-(h:Int))=(y:Int):=lG
  clear hc hy hz hh;go_enter func271,ntmps271;go_wp2_with fail;go_ret;exact⟨rfl,rfl⟩
 ·rw[Aa hc]at hy;subst hy;have g1:(((z:Int) % 2)==1)=false:=by rw[Df];omega
  have s0:IntKind.u64.wrap (y:Int)=(y:Int):=lG
  clear hc hz hh;go_enter func271,ntmps271;go_wp2_with fail;go_ret;exact⟨rfl,rfl⟩
theorem Ui(w:World)(k:Nat)(hk:k<=100000):
 Calls prog 327 #[.int .u64 1, .int .u64 k] w fun e w'=>e= .returned (.tuple #[.int .u64 0, .int .u64 k])/\w'=w:=by
 have a1:bits .and .u64 (1:Int) 4294967295=1:=iX
 have a0:bits .and .u64 (0:Int) 4294967295=0:=iX
 have ak:bits .and .u64 (k:Int) 4294967295=(k:Int):=by have h:=bits_and_u64_nat k 4294967295 kR kR;rw[show 4294967295=2 ^ 32-1 from rfl,Mh,Nat.mod_eq_of_lt kR]at h;exact h
 have sk:(k:Int) / 4294967296=0:=kR
 have wk:IntKind.u64.wrap (k:Int)=(k:Int):=lG
 go_enter func327,ntmps327;go_wp2_with fail;go_ret2;exact⟨rfl,rfl⟩
theorem VF(w:World)(k:Nat)(hk:k<=100000):
 Calls prog 293 #[.int .u64 1, .int .u64 k] w fun e w'=>e= .returned (.tuple #[.int .u64 0, .int .u64 k])/\w'=w:=by
 have D:=hid (Ui w k hk);go_enter func293,ntmps293;go_wp2_with fail;refine D.out.mono ?_;rintro e w1 ⟨rfl,rfl⟩;go_wp2_with fail;go_ret2;exact⟨rfl,rfl⟩
def ED(x n k:Nat):List Value:=List.replicate n (.int .u8 (x:Nat))++List.replicate (k-n) (.int .u8 0)
theorem Q8{x k:Nat}(h:n<=k):(ED x n k).length=k:=by simp[ED];omega
theorem T2(x k:Nat):madeCells #[.int .u8 0] k=(ED x 0 k).toArray:=by
 apply Array.ext_getElem?
 intro i;by_cases h:i<k
 ·simp[ED,madeCells,h,Nat.mod_one]
 ·simp[ED,madeCells,h]
theorem QX(x n m k:Nat):splice (ED x n k) n (List.replicate m (.int .u8 (x:Nat)))=ED x (n+m) k:=by
 unfold splice ED;have e1:(List.replicate n (Value.int .u8 (x:Nat))++List.replicate (k-n) (Value.int .u8 0)).take n=List.replicate n (Value.int .u8 (x:Nat)):=by rw[List.take_append_of_le_length mY];simp
 have e2:(List.replicate n (Value.int .u8 (x:Nat))++List.replicate (k-n) (Value.int .u8 0)).drop (n+m)=List.replicate (k-(n+m)) (Value.int .u8 0):=by rw[List.drop_append];simp;omega
 rw[Do,e1,e2,<-zY,List.replicate_append_replicate]
theorem TK(x k:Nat):ED x k k=cZ .u8 (List.replicate k x):=by simp[ED,cZ]
theorem Ox{a v:Value}(h:(List.replicate m a)[i]? =some v):i<m/\v=a:=by obtain⟨hj,hv⟩:=Ch.1 h;rw[Do]at hj;rw[List.getElem_replicate]at hv;exact⟨hj,hv.symm⟩
theorem YU:(prog.info? 5).map (fun i=>(i.zero,i.size,i.bytes))=some (some (.int .u8 0),1,1):=kG
theorem YF(n:Nat)(hn:n<=8388608)(w:World):(Instr.makeSlice 28 (.int .i64 (n:Int)) (.int .i64 (n:Int))).run prog w=
 .ok (.slice (some ⟨w,0,none⟩) n n) (w.alloc (.cells (madeCells #[.int .u8 0] n) 5)):=by
 obtain⟨i0,hi,y,i,j⟩:=info_parts YU;have h:=run_make (P:=prog) w 28 5 i0 (.int .u8 0) underlying28 hi y .i64 .i64 (n:Int) (n:Int) kR (Int.le_refl _) mr kR;simp only[Int.toNat_natCast]at h;simpa[i,Value.cells]using h
theorem Qo:(prog.info? 5).map (·.size)=some 1:=kG
theorem ZL(w:World)(g c x k:Nat)(hk:k<=100000)(hx:Blk w g 5 #[.int .u8 (x:Nat)]):
 Calls prog 244 #[.slice (some ⟨g,0,none⟩) 1 c, .int .i64 (k:Nat)] w fun e w'=>∃v,e= .returned v/\w'.ownsRow w 5 1 v k (cZ .u8 (List.replicate k x))/\aO w w':=by
 have D:=hid (VF w k hk);have hm:=YF k kR;have N:=iR ((k:Int)<0)
 have U:=iR ((9223372036854775807:Int)<k)
 have z:=iR (9223372036854775807<k)
 have wk:IntKind.u64.wrap (k:Int)=(k:Int):=lG
 have wi:IntKind.i64.wrap (k:Int)=(k:Int):=Am _ kR;have c0:=hx.iO 0;have hg:=hx.lt;have ag:=hid c0;clear hx;rw[T2 x k]at hm;go_enter func244,ntmps244;go_wp2_with fail;refine D.out.mono ?_;rintro e w1 ⟨rfl,rfl⟩;obtain⟨m,i⟩:=iS (Nat.min 1 k);have ai:m<=k:=by rw[i];exact Nat.min_le_right _ _
 have ak:m<=1:=by rw[i];exact Nat.min_le_left _ _
 have HM:=hid i;have E:Hid (0<k->0<m):=fun h=>by rw[i];exact Nat.lt_min.2 ⟨kR,h⟩
 clear i;go_wp2_with((with_reducible show wpList _ _ _ (⟨some 33,_,_,_,_,_⟩ :: _) _ _);refine wpList_copy_splice rfl (.tmp 31) (.tmp 32) 28 28 rfl 5 underlying28 Qo (some ⟨w1,0,none⟩) (some ⟨g,0,none⟩) k k 1 c kU kU w1.heap.size 0 (ED x 0 k) 5 (heap_alloc_new w1 _) (List.replicate m (.int .u8 (x:Nat))) (by rw[Do];exact HM.out) (fun _=>⟨rfl,_,rfl,fun j v hv=>by obtain⟨hj,rfl⟩:=Ox hv;obtain rfl:j=0:=kR;exact(World.cell?_alloc_lt w1 _ ⟨g,0,none⟩ hg).trans ag.out⟩) (by rw[Do,Q8 (Ba k)];omega) (by intro v hv;rw[(List.mem_replicate.1 hv).2];rfl) w1.heap.size w1 (bZ (Ag _ _)) (Ai _) ?_;intro w2 y M);have J:=hid M;rw[QX]at y;rw[BF]at y;have aa:Hid (0<k->0<m):=E.out;clear M c0 hm D HM E U z N wk wi;generalize hb:w1.heap.size=b at *;have Y:=hid hb;clear hb;go_loopw [8] (fun nv wr=>∃q:Nat,q<=k/\nv= .int .i64 q/\Hid (0<k->0<q)/\Hid (wr.heap[b]? =some (.cells (ED x q k).toArray 5 (0,0)))/\Hid (Below b w1 wr)) (fun nv _=>k-(intOf nv).toNat)
 case atStart=>exact⟨m,ai,rfl,aa.out,y.out,J.out⟩
 case round=>
  obtain⟨q,hq,rfl,HQ,HG,HB⟩:=hrel;clear y J aa;by_cases an:q<k
  ·have g1:=iQ ((q:Int)<k);have al:=iQ (q<k);have af:0<q:=HQ.out kR;have ab:xZ (some ⟨b,0,none⟩) q k 1=some ⟨b,q,none⟩:=(by unfold xZ;rw[Aa kR];show some (Addr.add ⟨b,0,none⟩ (q*1))=_;rw[Fp,BF,EF]);have ae:=fun wx=>EM (P:=prog) (t:=28) (s:=1) underlying28 (fun _=>by kernel_rfl) (some ⟨b,0,none⟩) k k .i64 (q:Int) q rfl hq wx;rw[ab]at ae;have am:=fun wx=>CX (P:=prog) (t:=28) (s:=1) underlying28 (fun _=>by kernel_rfl) (some ⟨b,0,none⟩) k k .i64 (q:Int) q rfl hq (by intro a ha;injection ha with ha;subst ha;exact Fp _ _ _) wx;obtain⟨d,hd⟩:=iS (Nat.min q (k-q));have Z:q+d<=k/\0<d/\d<=q:=(by have h1:d<=k-q:=(by rw[hd];exact Nat.min_le_right _ _);have h2:d<=q:=(by rw[hd];exact Nat.min_le_left _ _);have h3:0<d:=(by rw[hd];exact Nat.lt_min.2 ⟨af,kR⟩);omega);have S1:Hid (IntKind.i64.wrap ((q:Int)+(d:Int))=((q+d:Nat):Int)):=(by show _=_;rw[Am _ kR];omega);have S2:Hid (wrap64 ((q:Int)+(d:Int))=((q+d:Nat):Int)):=(by show _=_;rw[I8 _ ⟨kR,kR⟩];omega);have HD:=hid hd;have G:Hid (∀j v,(List.replicate d (Value.int .u8 (x:Nat)))[j]? =some v->wr.cell? (Addr.add ⟨b,0,none⟩ j)=some v):=fun j v hv=>by obtain⟨hj,rfl⟩:=Ox hv;have ac:j<q:=kR;rw[Fp,BF,(show Blk wr b _ _ from HG.out).cell j];simp[ED,List.getElem?_append,ac]
   clear hd ab;have s1:=S1.out;have s2:=S2.out;go_wp2_with fail;go_region_law((refine step_copy_splice rfl (.tmp 41) (.tmp 44) 28 28 rfl 5 underlying28 Qo (some ⟨b,q,none⟩) (some ⟨b,0,none⟩) (k-q) (k-q) q k (by go_simp) (by go_simp) b q (ED x q k) 5 HG.out (List.replicate d (.int .u8 (x:Nat))) (by rw[Do];exact HD.out) (fun _=>⟨rfl,_,rfl,G.out⟩) (by rw[Do,Q8 hq];exact Z.1) (by intro v hv;rw[(List.mem_replicate.1 hv).2];rfl) b w1 HB.out.drew (Ai _) ?_);intro w4 L Q)
   all_goals
    have ah:Hid (w4.heap[b]? =some (.cells (ED x (q+d) k).toArray 5 (0,0))):=(by have h:=L.out;rw[QX]at h;exact h);have aj:=hid Q;clear L Q
    go_simp
    go_wp2_with fail;go_roundw
    case measure=>exact jw
    case rel=>go_light;exact⟨q+d,Z.1,i5,fun _=>kR,ah.out,aj.out⟩
  ·obtain rfl:q=k:=by omega
   have g1:=iR ((q:Int)<q);go_wp2_with fail;go_ret;refine⟨_,rfl,⟨nk, .inr ⟨b,q,(ED x q q).toArray,rfl,?_,HG.out,Ai _,nI,by simp[ED],?_⟩⟩,?_⟩
   ·rw[<-Y.out];exact Ai _
   ·rw[EF,<-TK];exact BR (by simp[ED])
   ·rw[<-Y.out]at HB;exact HB.out
end Recs
namespace Recs
open Go.RowKit Mem Own Canon NumPut Nums
def CR:Nat->List Nat->Nat->Nat->List Nat->List Nat×Nat×Int
 |0,_,at_,_,acc=>(acc,at_,0)
 |k+1,bs,at_,was,acc=>if EE bs at_ 0≠0 then([],En bs at_ 0,EE bs at_ 0)else CR k bs (En bs at_ 0) ((was+FZ (CY bs at_ 0)) % 18446744073709551616) (acc++ [(was+FZ (CY bs at_ 0)) % 18446744073709551616])
theorem ID{K K':Nat->Prop}(h:Kept K a b)(hi:∀x,K' x->K x):Kept K' a b:=⟨h.os,h.tape,h.output,h.size,fun x hx=>h.block x (hi x hx)⟩
theorem Jo{B:Nat}{c:World}(h:Kept (fun x=>x<B/\x≠g) a b)(hB:B<=b.heap.size)(k:Kept (AW g b) b c):Kept (fun x=>x<B/\x≠g) a c:=h.trans (ID k fun x hx=>⟨kr,hx.2⟩)
theorem Hd{v:Value}(h:w.ownsRow base e s v n xs)(hg:g<base)(k:Kept (AW g w) w w'):w'.ownsRow base e s v n xs:=
 dZ h fun x hx=>k.block x ⟨(Ae h x hx).2,by have:=(Ae h x hx).1;omega⟩
theorem LA{b:Nat}{t:TypeId}{cs:Array Value}(h:Blk w b t cs)(hg:b≠g)(k:Kept (AW g w) w w'):Blk w' b t cs:=(k.block b ⟨h.lt,hg⟩).trans h
theorem Kx{k:IntKind}(h:w.ownsRow base e 1 (.slice A n c) n (cZ k ls)):Src w A n c 1 (cZ k ls):=by
 obtain⟨h0,h1⟩:=h;refine⟨h0,?_⟩;rcases h1 with ⟨hv,_⟩|⟨g,y,cur,hv,_,hh,_,_,_,i⟩
 ·injection hv with e1 e2 e3;exact .inl ⟨e1,e2,e3⟩
 ·injection hv with e1 e2 e3;refine .inr ⟨⟨g,0,none⟩,e1,fun j u hu=> ?_⟩;rw[Fp,BF,Blk.cell hh];rw[<-i,Iv]at hu;split at hu
  ·simpa using hu
  ·cases hu
theorem JA{row:Option Nat}{bs:List Nat}(h:Cur w g base bs A c at_ er)(hg:w.grownBy w' row)(B:Nat)(j:g<B)(i:∀x,(Value.slice A bs.length c).ownBlock=some x->x<B)(hr:∀x,row=some x->B<=x):Cur w' g base bs A c at_ er:=
 ⟨h.blk.grown hg (fun e=>by have:=hr g e.symm;omega),dZ h.own (fun x hx=>hg.block x (Ae h.own x hx).2 (fun e=>by have:=i x hx;have:=hr x e.symm;omega)),h.le,h.lo⟩
def GC:Value->Nat
 | .slice _ n _=>n
 |_=>0
theorem Pd:(prog.info? 41).map (fun i=>(i.zero,i.size,i.bytes))=some (some (.int .u64 0),1,8):=kG
def O0(w:World)(n g base:Nat)(bs:List Nat)(A:Option Addr)(c:Nat)(T:List Nat×Nat×Int)(e:Ending)(w':World):Prop:=
 ∃v acc,e= .returned v/\acc.length<=n/\w'.ownsRow w 41 1 v acc.length (cZ .u64 acc)/\Cur w' g base bs A c T.2.1 T.2.2/\Kept (AW g w) w w'/\(T.2.2=0->acc=T.1)
theorem aF(w:World)(g base:Nat)(bs:List Nat)(A:Option Addr)(c at_ n:Nat)(af:bs.length<=100000)(h8:∀x∈bs,x<=255)(hn:n<=20000)(h:Cur w g base bs A c at_ 0):
 Calls prog 193 #[.agg #[.pointer (some ⟨g,0,none⟩)], .int .i64 (n:Nat)] w (O0 w n g base bs A c (CR n bs at_ 0 [])):=by
 obtain⟨j0,ay,aW,av,aP⟩:=info_parts Pd;obtain⟨T,hT⟩:=iS (CR n bs at_ 0 []);rw[<-hT];have ah:Hid (CR (n-0) bs at_ 0 []=T):=hT.symm;have H8:=hid h8;have aV:=hid af;have a0:=h.blk.lt;have H:=hid h;have aq:Hid (∀y,(Value.slice A bs.length c).ownBlock=some y->y<w.heap.size):=fun y hy=>(Ae h.own y hy).2;unfold O0;clear h h8 hT af;go_enter func193,ntmps193;go_wp2_with fail;have aj:=H.out.step (w':=w.alloc (.cells #[.pointer (some ⟨g,0,none⟩)] 249)) (bZ (Ag _ _));have M:Blk (w.alloc (.cells #[.pointer (some ⟨g,0,none⟩)] 249)) w 249 #[.pointer (some ⟨g,0,none⟩)]:=Blk.made _ _ _;have Y:Kept (AW g w) w (w.alloc (.cells #[.pointer (some ⟨g,0,none⟩)] 249)):=Kept.of_below (B:=w.heap.size) (bZ (Ag _ _)) (fun x hx=>hx.1);generalize w.alloc (.cells #[.pointer (some ⟨g,0,none⟩)] 249)=w1 at *;have z1:=Y.size;have am:=M.lt;have al:=hid aj;have aw:=hid M;have ab:=hid Y;have ar:w.heap.size≠g:=kR
 clear aj M Y H;go_loopw [5,6] (fun v uv wr=>∃ (a1:Nat) (er:Int) (z p:Nat) (j:List Nat),p<=n/\z<18446744073709551616/\uv= .int .u64 z/\Hid (j.length=p)/\Hid (Cur wr g base bs A c a1 er)/\Hid (wr.ownsRow w1 41 1 v p (cZ .u64 j))/\Hid (Kept (fun x=>x<w1.heap.size/\x≠g) w1 wr)/\Hid (er=0->CR (n-p) bs a1 z j=T)/\Hid (er≠0->T=([],a1,er))) (fun v _ _=>n-GC v)
 case atStart=>exact⟨at_,0,0,0,[],kR,kR,rfl,rfl,al.out,Aq _ _ _ _,Kept.refl _ _,fun _=>ah.out,fun h=>absurd rfl h⟩
 case round=>
  obtain⟨a1,er,z,p,j,hp,aX,rfl,HP,HC,HO,HK,HT,HE⟩:=hrel;have zk:=HK.out.size;obtain⟨va,vc,rfl⟩:=aZ HO.out;have xb:Blk wr w 249 #[.pointer (some ⟨g,0,none⟩)]:=(HK.out.block _ ⟨am,ar⟩).trans aw.out;have x0:=xb.iO 0;have XB:=hid xb;clear xb ah;by_cases a3:p<n
  ·have g1:=iQ ((p:Int)<n);have a5:=iQ (p<n);have DE:=hid (CJ wr g base bs A c a1 er HC.out);by_cases he:er=0
   ·subst he;have G:=HT.out rfl;rw[show n-p=(n-(p+1))+1 by omega,CR]at G;have L:CY bs a1 0<18446744073709551616:=(by have aT:∀x∈bs.drop a1,x<=255:=fun x hx=>H8.out x (Be hx);have:=(G8 (bs.drop a1) 0 0 aT kR mY).1;unfold CY;rw[Aa mY];exact this);have D1:=hid (fun wx hx=>num_any wx g base bs A c a1 0 aV.out H8.out hx);generalize CY bs a1 0=v1 at *;generalize En bs a1 0=a2 at *;generalize EE bs a1 0=e2 at *;have aY:=OI L;have D2:=hid (fun wx=>VU wx v1 L);generalize FZ v1=y1 at *;have s1:IntKind.u64.wrap ((z:Int)+(y1:Int))=(((z+y1) % 18446744073709551616:Nat):Int):=lG;have an:(z+y1) % 18446744073709551616<18446744073709551616:=Nat.mod_lt _ kR;generalize (z+y1) % 18446744073709551616=i at *;have ag:Hid ((e2=0->CR (n-(p+1)) bs a2 i (j++ [i])=T)/\(e2≠0->T=([],a2,e2))):=⟨fun h=>by rw[Aa nm]at G;exact G,fun h=>by rw[Ab h]at G;exact G.symm⟩;clear G HT HE;go_wp2_with fail;refine DE.out.mono ?_;rintro e w2 ⟨rfl,rfl⟩;go_wp2_with fail;refine(D1.out _ HC.out).mono ?_;rintro e w3 ⟨rfl,aa,J⟩;have z3:=J.size;have aS:=hid aa;have ai:Hid (w3.ownsRow w1 41 1 (.slice va p vc) p (cZ .u64 j)):=Hd HO.out kR J;have az:Hid (Kept (fun x=>x<w1.heap.size/\x≠g) w1 w3):=Jo HK.out zk J;clear aa J x0 HC HO HK DE D1 XB;go_wp2_with fail;refine(D2.out _).mono ?_;rintro e w4 ⟨rfl,rfl⟩;go_wp2_with(at_builtin;refine gZ rfl (.tmp 23) (.tmp 25) 98 rfl w1 41 j0 _ 1 8 underlying98 ay aW av aP rfl iX _ _ _ kU (ai.out.alloc _) _ 1 1 [.int .u64 (i:Nat)] kU (Src.of_blk (Blk.made_at _ _ _ mY) 1 1 1 rfl) kw nI kR ni ?_;intro v5 w5 E U ae;obtain⟨A5,c5,rfl⟩:=aZ E);have N:=bZ (o:= .cells #[.int .u64 (i:Nat)] 41) (Ag w4 w4);have ak:=aS.out.step N;have Z:Kept (fun x=>x<w1.heap.size/\x≠g) w1 (w4.alloc (.cells #[.int .u64 (i:Nat)] 41)):=az.out.trans (Kept.of_below N (fun x hx=>by have:=hx.1;omega));have a4:=Z.size;have Q:∀y,(Value.slice va p vc).ownBlock=some y->w1.heap.size<=y:=fun y hy=>(Ae ai.out y hy).1;have ac:Cur w5 g base bs A c a2 e2:=JA ak U w1 kR (fun y hy=>by have:=aq.out y hy;omega) Q;have ax:Hid (Kept (fun x=>x<w1.heap.size/\x≠g) w1 w5):=Z.grown U (fun y hy=>by have:=hy.1;omega) (fun y hy hh=>by have:=Q y hy;have:=hh.1;omega);have aR:=hid ac;have aU:Hid (w5.ownsRow w1 41 1 (.slice A5 (p+1) c5) (p+1) (cZ .u64 (j++ [i]))):=(by show World.ownsRow _ _ _ _ _ _ _;rw[show cZ .u64 (j++ [i])=cZ .u64 j++ [.int .u64 (i:Nat)] by simp[cZ]];exact E);clear E U ae N ak Z ac Q;go_roundw
    case measure=>exact ju
    case rel=>go_light;exact⟨a2,e2,i,p+1,j++ [i],kR,an,i5,mQ,aR.out,aU.out,ax.out,ag.out.1,ag.out.2⟩
   ·have g2:(er==0)=false:=nB;have au:=hid (HE.out he);have aQ:=hid he;clear he HT HE;go_wp2_with fail;refine DE.out.mono ?_;rintro e w2 ⟨rfl,rfl⟩;go_wp2_with fail;go_ret;rw[au.out];refine⟨_,j,rfl,lT,lU,HC.out,ab.out.trans (ID HK.out fun x hx=>⟨kr,hx.2⟩),fun h=>absurd h aQ.out⟩
  ·obtain rfl:p=n:=by omega
   have HF:Hid (a1=T.2.1/\er=T.2.2/\(T.2.2=0->j=T.1)):=by
    by_cases he:er=0
    ·subst he;have h:=HT.out rfl;rw[Fj,CR]at h;rw[<-h];exact⟨rfl,rfl,fun _=>rfl⟩
    ·have h:=HE.out he;rw[h];exact⟨rfl,rfl,fun h0=>absurd h0 he⟩
   have g1:=iR ((p:Int)<p);clear HT HE;go_wp2_with fail;go_ret;refine⟨_,j,rfl,lT,lU,by rw[<-HF.out.1,<-HF.out.2.1];exact HC.out,ab.out.trans (ID HK.out fun x hx=>⟨kr,hx.2⟩),HF.out.2.2⟩
def Gj(m:Nat)(bs:List Nat)(at_:Nat):Nat×Nat×Nat×Int:=
 (Dz bs at_ 0,zZ m bs (takeA bs at_ 0 1) (Bh bs at_ 0 1),nZ m bs (takeA bs at_ 0 1) (Bh bs at_ 0 1),oZ m bs (takeA bs at_ 0 1) (Bh bs at_ 0 1))
def Kt(acc:List Nat)(o:Nat×Nat×Nat×Int):Int:=if o.2.2.2≠0 then o.2.2.2 else if o.2.1=0∨acc.getLast?=some o.1 then 2 else 0
def CN:Nat->Nat->List Nat->Nat->List Nat->List Nat×Nat×Int
 |0,_,_,at_,acc=>(acc,at_,0)
 |f+1,n,bs,at_,acc=>if n<=acc.length then(acc,at_,0)else if Kt acc (Gj (n-acc.length) bs at_)≠0 then([],(Gj (n-acc.length) bs at_).2.2.1,Kt acc (Gj (n-acc.length) bs at_))else
  CN f n bs (Gj (n-acc.length) bs at_).2.2.1 (acc++List.replicate (Gj (n-acc.length) bs at_).2.1 (Gj (n-acc.length) bs at_).1)
theorem Yq{bs:List Nat}(h8:∀x∈bs,x<=255)(at_:Nat)(er:Int)(h:oZ m bs at_ er≠0):zZ m bs at_ er=0:=by
 unfold oZ at h;unfold zZ;by_cases he:er=0
 ·rw[Aa nr]at h;rw[Aa nr];exact((FC m (bs.drop at_) fun x hx=>h8 x (Be hx)).2.2.2.1 h).1
 ·rw[Ab he]
theorem QN{f:Nat}{bs:List Nat}{i:List Nat}(h:n<=i.length):CN f n bs at_ i=(i,at_,0):=by
 cases f with
 |zero=>rfl
 |succ f=>exact Ab h
def FD(w:World)(g:Nat):Int:=intOf ((w.cell? ⟨g,2,none⟩).getD (.int .i64 0))
theorem Qd:(prog.info? 5).map (fun i=>(i.zero,i.size,i.bytes))=some (some (.int .u8 0),1,1):=kG
def SU(w:World)(n g base:Nat)(bs:List Nat)(A:Option Addr)(c:Nat)(T:List Nat×Nat×Int)(e:Ending)(w':World):Prop:=
 ∃v acc,e= .returned v/\acc.length<=n/\w'.ownsRow w 5 1 v acc.length (cZ .u8 acc)/\Cur w' g base bs A c T.2.1 T.2.2/\Kept (AW g w) w w'/\(T.2.2=0->acc=T.1)
theorem Zu(w:World)(g base:Nat)(bs:List Nat)(A:Option Addr)(c at_ n:Nat)(aw:Int)(bh:bs.length<=100000)(h8:∀x∈bs,x<=255)(hn:n<=20000)(h:Cur w g base bs A c at_ aw):
 Calls prog 194 #[.agg #[.pointer (some ⟨g,0,none⟩)], .int .i64 (n:Nat)] w (SU w n g base bs A c (if aw≠0 then([],at_,aw)else CN n n bs at_ [])):=by
 obtain⟨j0,a4,a7,a0,a5⟩:=info_parts Qd;obtain⟨T,hT⟩:=iS (if aw≠0 then([],at_,aw)else CN n n bs at_ [])
 rw[<-hT];have bc:Hid ((aw=0->∃f,n<=f+0/\CN f n bs at_ []=T)/\(aw≠0->T=([],at_,aw))):=⟨fun h=>⟨n,Ai _,by rw[hT,Aa nm]⟩,fun h=>by rw[hT,Ab h]⟩;have H8:=hid h8;have bn:=hid bh;have bK:=h.blk.lt;have H:=hid h;have aY:Hid (∀y,(Value.slice A bs.length c).ownBlock=some y->y<w.heap.size):=fun y hy=>(Ae h.own y hy).2;unfold SU;clear h h8 hT bh;go_enter func194,ntmps194;go_wp2_with fail;have bm:=H.out.step (w':=w.alloc (.cells #[.pointer (some ⟨g,0,none⟩)] 249)) (bZ (Ag _ _));have ba:Blk (w.alloc (.cells #[.pointer (some ⟨g,0,none⟩)] 249)) w 249 #[.pointer (some ⟨g,0,none⟩)]:=Blk.made _ _ _;have bd:Kept (AW g w) w (w.alloc (.cells #[.pointer (some ⟨g,0,none⟩)] 249)):=Kept.of_below (B:=w.heap.size) (bZ (Ag _ _)) (fun x hx=>hx.1);generalize w.alloc (.cells #[.pointer (some ⟨g,0,none⟩)] 249)=w1 at *;have z1:=bd.size;have bu:=ba.lt;have bt:=hid bm;have bA:=hid ba;have bf:=hid bd;have a9:w.heap.size≠g:=kR
 clear bm ba bd H;go_loopw [5] (fun v wr=>∃ (a1:Nat) (er:Int) (p:Nat) (j:List Nat),p<=n/\Hid (j.length=p)/\Hid (Cur wr g base bs A c a1 er)/\Hid (wr.ownsRow w1 5 1 v p (cZ .u8 j))/\Hid (Kept (fun x=>x<w1.heap.size/\x≠g) w1 wr)/\Hid (er=0->∃f,n<=f+p/\CN f n bs a1 j=T)/\Hid (er≠0->T=([],a1,er))) (fun v wr=>(n-GC v)+if FD wr g=0 then 1 else 0)
 case atStart=>exact⟨at_,aw,0,[],kR,rfl,bt.out,Aq _ _ _ _,Kept.refl _ _,bc.out.1,bc.out.2⟩
 case round=>
  obtain⟨a1,er,p,j,hp,HP,HC,HO,HK,HT,HE⟩:=hrel;have zk:=HK.out.size;obtain⟨va,vc,rfl⟩:=aZ HO.out;have xb:Blk wr w 249 #[.pointer (some ⟨g,0,none⟩)]:=(HK.out.block _ ⟨bu,a9⟩).trans bA.out;have x0:=xb.iO 0;have XB:=hid xb;have aV:Hid (FD wr g=er):=by show _=_;unfold FD;rw[HC.out.cells.2.2];rfl
  clear xb bc;by_cases bL:p<n
  ·have g1:=iQ ((p:Int)<n);have bM:=iQ (p<n);have DE:=hid (CJ wr g base bs A c a1 er HC.out);by_cases he:er=0
   ·subst he;obtain⟨f,hf,aT⟩:=HT.out rfl;obtain⟨f,rfl⟩:∃f',f=f'+1:=⟨f-1,kR⟩;rw[CN,Aa (by rw[HP.out];omega),HP.out]at aT;obtain⟨m,hm⟩:=iS (n-p);have sm:IntKind.i64.wrap ((n:Int)-(p:Int))=(m:Int):=lD;rw[<-hm]at aT;have bO:=hid hm;have bG:p+m<=n/\m<=20000:=kR;clear hm;have D1:=hid (fun wx hx=>NZ wx g base bs A c a1 0 bn.out hx);have bN:zZ m bs (takeA bs a1 0 1) (Bh bs a1 0 1)<=m:=CI H8.out _ _;have bP:Hid (oZ m bs (takeA bs a1 0 1) (Bh bs a1 0 1)≠0->zZ m bs (takeA bs a1 0 1) (Bh bs a1 0 1)=0):=Yq H8.out _ _;unfold Kt Gj at aT;simp only at aT;have D2:=hid (fun wx hx=>GJ wx g base bs A c (takeA bs a1 0 1) (Bh bs a1 0 1) m bn.out H8.out kR hx);generalize Dz bs a1 0=x at *;generalize takeA bs a1 0 1=b1 at *;generalize Bh bs a1 0 1=d1 at *;generalize zZ m bs b1 d1=k at *;generalize nZ m bs b1 d1=a2 at *;generalize oZ m bs b1 d1=e2 at *;have az:k<=100000:=kR;have DR:=hid (fun wx gx cx y kk hkk hb=>ZL wx gx cx y kk hkk hb);have au:=hid aT;have HF:=hid hf;clear aT HT HE hf;go_wp2_with fail;refine DE.out.mono ?_;rintro e w2 ⟨rfl,rfl⟩;go_wp2_with fail;refine(D1.out _ HC.out).mono ?_;rintro e w3 ⟨rfl,be,aU⟩;have z3:=aU.size;have bk:=hid be;have bl:Hid (w3.ownsRow w1 5 1 (.slice va p vc) p (cZ .u8 j)):=Hd HO.out kR aU;have bj:Hid (Kept (fun x=>x<w1.heap.size/\x≠g) w1 w3):=Jo HK.out zk aU;have bb:=hid (LA XB.out a9 aU);have x3:=bb.out.iO 0;clear be aU x0 HC HO HK DE D1 XB;go_wp2_with fail;refine(D2.out _ bk.out).mono ?_;rintro e w4 ⟨rfl,bp,a6⟩;have z4:=a6.size;have ak:=hid bp;have ac:Hid (w4.ownsRow w1 5 1 (.slice va p vc) p (cZ .u8 j)):=Hd bl.out kR a6;have al:Hid (Kept (fun x=>x<w1.heap.size/\x≠g) w1 w4):=Jo bj.out kR a6;have a8:=hid (LA bb.out a9 a6);have x4:=a8.out.iO 0;have bE:=hid (CJ w4 g base bs A c a2 e2 ak.out);clear bp a6 x3 bk bl bj D2 bb;go_wp2_with fail;refine bE.out.mono ?_;rintro e w5 ⟨rfl,rfl⟩;by_cases aR:e2=0
    ·subst aR;have Z:=au.out;rw[Aa (show ¬((0:Int)≠0) from fun h=>h rfl)]at Z;by_cases aP:k=0
     ·have gk:((k:Int)==0)=true:=(by rw[aP];rfl);obtain⟨i,J⟩:=iS (Du 0 2);have ab:i=2:=J.trans (Ab rfl);have ag:Hid ((i=0->∃f',n<=f'+(p+k)/\CN f' n bs a2 (j++List.replicate k x)=T)/\(i≠0->T=([],a2,i))):=⟨fun h=>absurd (ab.symm.trans h) iX,fun _=>by rw[Ab (Or.inl aP),Ab iX]at Z;rw[ab];exact Z.symm⟩;have aq:Hid (n-(p+k)+(if i=0 then 1 else 0)<n-p+1):=(by show _<_;rw[Aa (by rw[ab];decide)];omega);have DF:=hid (Gc w5 g base bs A c a2 0 2 ak.out);rw[<-J]at DF;clear Z ab J au aP;go_wp2_with fail;refine DF.out.mono ?_;rintro e w6 ⟨rfl,aX,aS⟩;have Y:Hid (w6.ownsRow w1 5 1 _ p (cZ .u8 j)):=dZ ac.out (fun z hz=>aS.block z (by have:=(Ae ac.out z hz).1;omega));have N:Hid (Kept (fun x=>x<w1.heap.size/\x≠g) w1 w6):=al.out.trans (ID aS fun z hz=>hz.2);have ah:=hid aX;clear ac al ak aS aX DF a8 x4 z4;obtain⟨w5,rfl⟩:=iS w6;have z5:=N.out.size;go_wp2_with fail;have bq:Blk (w5.alloc (.cells #[.int .u8 (x:Nat)] 5)) w5 5 #[.int .u8 (x:Nat)]:=Blk.made _ _ _;refine(DR.out _ _ _ x k az bq).mono ?_;rintro e w6 ⟨v6,rfl,U,G⟩;obtain⟨A6,c6,rfl⟩:=aZ U;have z6:=G.size;simp at z6;have am:Hid (Src w6 A6 k c6 1 (cZ .u8 (List.replicate k x))):=Kx U;have aa:Hid (w6.ownsRow w1 5 1 _ p (cZ .u8 j)):=dZ (Y.out.alloc _) (fun y hy=>G.block y jX);have af:Cur w6 g base bs A c a2 i:=ah.out.step ((bZ (Ag _ _)).trans (G.mono mY));have ai:Hid (Kept (fun x=>x<w1.heap.size/\x≠g) w1 w6):=N.out.trans (Kept.of_below ((bZ (Ag _ _)).trans (G.mono mY)) (fun y hy=>by have:=hy.1;omega));have ay:=hid af;clear U G bq af ah Y N DR;go_wp2_with(at_builtin;refine gZ rfl (.tmp 54) (.tmp 58) 28 rfl w1 5 j0 _ 1 1 underlying28 a4 a7 a0 a5 rfl iX _ _ _ kU aa.out _ _ _ _ kU am.out (Cn _ _) nI kR kR ?_;intro v7 w7 E L ae);obtain⟨A7,c7,rfl⟩:=aZ E;have Q:=fun(y:Nat) hy=>(Ae aa.out y hy).1;have z7:=ai.out.size;have M:Cur w7 g base bs A c a2 i:=JA ay.out L w1 kR (fun y hy=>by have:=aY.out y hy;omega) Q;have ax:Hid (Kept (fun x=>x<w1.heap.size/\x≠g) w1 w7):=ai.out.grown L (fun y hy=>by have:=hy.1;omega) (fun y hy hh=>by have:=Q y hy;have:=hh.1;omega);have av:Hid (w7.ownsRow w1 5 1 (.slice A7 (p+k) c7) (p+k) (cZ .u8 (j++List.replicate k x))):=mE;have ar:=hid M;have an:Hid (FD w7 g=i):=mT;clear E L ae Q M;go_roundw
      case measure=>exact js
      case rel=>exact i9
     ·have gk:((k:Int)==0)=false:=lH;have bF:(k==0)=false:=lH;by_cases bg:p=0
      ·have gp:=iR ((0:Int)<p);have bC:=iR (0<p);have aW:¬(k=0∨j.getLast?=some x):=fun h=>h.elim aP (fun h=>by rw[FK (HP.out.trans bg)]at h;cases h);obtain⟨i,J⟩:∃i:Int,i=0:=⟨_,rfl⟩;have ag:Hid ((i=0->∃f',n<=f'+(p+k)/\CN f' n bs a2 (j++List.replicate k x)=T)/\(i≠0->T=([],a2,i))):=⟨fun _=>⟨f,ka,by rw[Aa aW,Aa (show ¬((0:Int)≠0) from fun h=>h rfl)]at Z;exact Z⟩,fun h=>absurd J h⟩;have aq:Hid (n-(p+k)+(if i=0 then 1 else 0)<n-p+1):=(by show _<_;rw[Ab J];omega);have aj:Hid (Cur w5 g base bs A c a2 i):=(by rw[J];exact ak.out);clear Z J au aP aW bg;have ah:=aj;have Y:=ac;have N:=al;clear ak ac al aj;have z5:=N.out.size;go_wp2_with fail;have bq:Blk (w5.alloc (.cells #[.int .u8 (x:Nat)] 5)) w5 5 #[.int .u8 (x:Nat)]:=Blk.made _ _ _;refine(DR.out _ _ _ x k az bq).mono ?_;rintro e w6 ⟨v6,rfl,U,G⟩;obtain⟨A6,c6,rfl⟩:=aZ U;have z6:=G.size;simp at z6;have am:Hid (Src w6 A6 k c6 1 (cZ .u8 (List.replicate k x))):=Kx U;have aa:Hid (w6.ownsRow w1 5 1 _ p (cZ .u8 j)):=dZ (Y.out.alloc _) (fun y hy=>G.block y jX);have af:Cur w6 g base bs A c a2 i:=ah.out.step ((bZ (Ag _ _)).trans (G.mono mY));have ai:Hid (Kept (fun x=>x<w1.heap.size/\x≠g) w1 w6):=N.out.trans (Kept.of_below ((bZ (Ag _ _)).trans (G.mono mY)) (fun y hy=>by have:=hy.1;omega));have ay:=hid af;clear U G bq af ah Y N DR;go_wp2_with(at_builtin;refine gZ rfl (.tmp 54) (.tmp 58) 28 rfl w1 5 j0 _ 1 1 underlying28 a4 a7 a0 a5 rfl iX _ _ _ kU aa.out _ _ _ _ kU am.out (Cn _ _) nI kR kR ?_;intro v7 w7 E L ae);obtain⟨A7,c7,rfl⟩:=aZ E;have Q:=fun(y:Nat) hy=>(Ae aa.out y hy).1;have z7:=ai.out.size;have M:Cur w7 g base bs A c a2 i:=JA ay.out L w1 kR (fun y hy=>by have:=aY.out y hy;omega) Q;have ax:Hid (Kept (fun x=>x<w1.heap.size/\x≠g) w1 w7):=ai.out.grown L (fun y hy=>by have:=hy.1;omega) (fun y hy hh=>by have:=Q y hy;have:=hh.1;omega);have av:Hid (w7.ownsRow w1 5 1 (.slice A7 (p+k) c7) (p+k) (cZ .u8 (j++List.replicate k x))):=mE;have ar:=hid M;have an:Hid (FD w7 g=i):=mT;clear E L ae Q M;go_roundw
       case measure=>exact js
       case rel=>exact i9
      ·obtain⟨gq,cq,bD,bJ,_⟩:=ac.out.form kR;injection bD with e1 e2 e3;subst e1 e3;obtain⟨y,hy⟩:∃y,j[p-1]? =some y:=⟨_,AE ki⟩;have aQ:j.getLast?=some y:=by rw[List.getLast?_eq_getElem?,HP.out];exact hy
       have cy:w5.cell? ⟨gq,p-1,none⟩=some (.int .u8 (y:Nat)):=(by rw[ac.out.cellAt (p-1) kR];unfold cZ;rw[B0,hy];rfl);obtain⟨p1,bi⟩:=iS (p-1);rw[<-bi]at cy;have sp:IntKind.i64.wrap ((p:Int)-1)=(p1:Int):=lD;have gp:=iQ ((0:Int)<p);have bC:=iQ (0<p);have bI:(0:Int)<=(p1:Int):=kR;have bH:(p1:Int)<(p:Int):=kR;clear hy bi;by_cases a3:y=x
       ·have gx:((y:Int)==(x:Int))=true:=(by rw[a3];simp);rw[a3]at aQ;clear a3;obtain⟨i,J⟩:=iS (Du 0 2);have ab:i=2:=J.trans (Ab rfl);have ag:Hid ((i=0->∃f',n<=f'+(p+k)/\CN f' n bs a2 (j++List.replicate k x)=T)/\(i≠0->T=([],a2,i))):=⟨fun h=>absurd (ab.symm.trans h) iX,fun _=>by rw[Ab (Or.inr aQ),Ab iX]at Z;rw[ab];exact Z.symm⟩;have aq:Hid (n-(p+k)+(if i=0 then 1 else 0)<n-p+1):=(by show _<_;rw[Aa (by rw[ab];decide)];omega);have DF:=hid (Gc w5 g base bs A c a2 0 2 ak.out);rw[<-J]at DF;clear Z ab J au aQ aP;go_wp2_with fail;refine DF.out.mono ?_;rintro e w6 ⟨rfl,aX,aS⟩;clear cy;have Y:Hid (w6.ownsRow w1 5 1 _ p (cZ .u8 j)):=dZ ac.out (fun z hz=>aS.block z (by have:=(Ae ac.out z hz).1;omega));have N:Hid (Kept (fun x=>x<w1.heap.size/\x≠g) w1 w6):=al.out.trans (ID aS fun z hz=>hz.2);have ah:=hid aX;clear ac al ak aS aX DF a8 x4 z4;obtain⟨w5,rfl⟩:=iS w6;have z5:=N.out.size;go_wp2_with fail;have bq:Blk (w5.alloc (.cells #[.int .u8 (x:Nat)] 5)) w5 5 #[.int .u8 (x:Nat)]:=Blk.made _ _ _;refine(DR.out _ _ _ x k az bq).mono ?_;rintro e w6 ⟨v6,rfl,U,G⟩;obtain⟨A6,c6,rfl⟩:=aZ U;have z6:=G.size;simp at z6;have am:Hid (Src w6 A6 k c6 1 (cZ .u8 (List.replicate k x))):=Kx U;have aa:Hid (w6.ownsRow w1 5 1 _ p (cZ .u8 j)):=dZ (Y.out.alloc _) (fun y hy=>G.block y jX);have af:Cur w6 g base bs A c a2 i:=ah.out.step ((bZ (Ag _ _)).trans (G.mono mY));have ai:Hid (Kept (fun x=>x<w1.heap.size/\x≠g) w1 w6):=N.out.trans (Kept.of_below ((bZ (Ag _ _)).trans (G.mono mY)) (fun y hy=>by have:=hy.1;omega));have ay:=hid af;clear U G bq af ah Y N DR;go_wp2_with(at_builtin;refine gZ rfl (.tmp 54) (.tmp 58) 28 rfl w1 5 j0 _ 1 1 underlying28 a4 a7 a0 a5 rfl iX _ _ _ kU aa.out _ _ _ _ kU am.out (Cn _ _) nI kR kR ?_;intro v7 w7 E L ae);obtain⟨A7,c7,rfl⟩:=aZ E;have Q:=fun(y:Nat) hy=>(Ae aa.out y hy).1;have z7:=ai.out.size;have M:Cur w7 g base bs A c a2 i:=JA ay.out L w1 kR (fun y hy=>by have:=aY.out y hy;omega) Q;have ax:Hid (Kept (fun x=>x<w1.heap.size/\x≠g) w1 w7):=ai.out.grown L (fun y hy=>by have:=hy.1;omega) (fun y hy hh=>by have:=Q y hy;have:=hh.1;omega);have av:Hid (w7.ownsRow w1 5 1 (.slice A7 (p+k) c7) (p+k) (cZ .u8 (j++List.replicate k x))):=mE;have ar:=hid M;have an:Hid (FD w7 g=i):=mT;clear E L ae Q M;go_roundw
        case measure=>exact js
        case rel=>exact i9
       ·have gx:((y:Int)==(x:Int))=false:=lH;obtain⟨i,J⟩:∃i:Int,i=0:=⟨_,rfl⟩;have aW:¬(k=0∨j.getLast?=some x):=fun h=>h.elim aP (fun h=>by rw[aQ]at h;injection h with h;exact a3 h);have ag:Hid ((i=0->∃f',n<=f'+(p+k)/\CN f' n bs a2 (j++List.replicate k x)=T)/\(i≠0->T=([],a2,i))):=⟨fun _=>⟨f,ka,by rw[Aa aW,Aa mY]at Z;exact Z⟩,fun h=>absurd J h⟩;have aq:Hid (n-(p+k)+(if i=0 then 1 else 0)<n-p+1):=(by show _<_;rw[Ab J];omega);have aj:Hid (Cur w5 g base bs A c a2 i):=(by rw[J];exact ak.out);clear Z J au aQ aW a3 aP;have ah:=aj;have Y:=ac;have N:=al;clear ak ac al aj;have z5:=N.out.size;go_wp2_with fail;have bq:Blk (w5.alloc (.cells #[.int .u8 (x:Nat)] 5)) w5 5 #[.int .u8 (x:Nat)]:=Blk.made _ _ _;refine(DR.out _ _ _ x k az bq).mono ?_;rintro e w6 ⟨v6,rfl,U,G⟩;obtain⟨A6,c6,rfl⟩:=aZ U;have z6:=G.size;simp at z6;have am:Hid (Src w6 A6 k c6 1 (cZ .u8 (List.replicate k x))):=Kx U;have aa:Hid (w6.ownsRow w1 5 1 _ p (cZ .u8 j)):=dZ (Y.out.alloc _) (fun y hy=>G.block y jX);have af:Cur w6 g base bs A c a2 i:=ah.out.step ((bZ (Ag _ _)).trans (G.mono mY));have ai:Hid (Kept (fun x=>x<w1.heap.size/\x≠g) w1 w6):=N.out.trans (Kept.of_below ((bZ (Ag _ _)).trans (G.mono mY)) (fun y hy=>by have:=hy.1;omega));have ay:=hid af;clear U G bq af ah Y N DR;go_wp2_with(at_builtin;refine gZ rfl (.tmp 54) (.tmp 58) 28 rfl w1 5 j0 _ 1 1 underlying28 a4 a7 a0 a5 rfl iX _ _ _ kU aa.out _ _ _ _ kU am.out (Cn _ _) nI kR kR ?_;intro v7 w7 E L ae);obtain⟨A7,c7,rfl⟩:=aZ E;have Q:=fun(y:Nat) hy=>(Ae aa.out y hy).1;have z7:=ai.out.size;have M:Cur w7 g base bs A c a2 i:=JA ay.out L w1 kR (fun y hy=>by have:=aY.out y hy;omega) Q;have ax:Hid (Kept (fun x=>x<w1.heap.size/\x≠g) w1 w7):=ai.out.grown L (fun y hy=>by have:=hy.1;omega) (fun y hy hh=>by have:=Q y hy;have:=hh.1;omega);have av:Hid (w7.ownsRow w1 5 1 (.slice A7 (p+k) c7) (p+k) (cZ .u8 (j++List.replicate k x))):=mE;have ar:=hid M;have an:Hid (FD w7 g=i):=mT;clear E L ae Q M;go_roundw
        case measure=>exact js
        case rel=>exact i9
    ·have gE:(e2==0)=false:=(by simpa using aR);have Z:=au.out;rw[Ab aR,Ab aR]at Z;have ag:Hid ((e2=0->∃f',n<=f'+(p+k)/\CN f' n bs a2 (j++List.replicate k x)=T)/\(e2≠0->T=([],a2,e2))):=⟨fun h=>absurd h aR,fun _=>Z.symm⟩;have aq:Hid (n-(p+k)+(if e2=0 then 1 else 0)<n-p+1):=(by show _<_;rw[Aa aR];omega);have aj:Hid (Cur w5 g base bs A c a2 e2):=ak.out;clear Z au aR;obtain⟨i,rfl⟩:=iS e2;have ah:=aj;have Y:=ac;have N:=al;clear ak ac al aj;have z5:=N.out.size;go_wp2_with fail;have bq:Blk (w5.alloc (.cells #[.int .u8 (x:Nat)] 5)) w5 5 #[.int .u8 (x:Nat)]:=Blk.made _ _ _;refine(DR.out _ _ _ x k az bq).mono ?_;rintro e w6 ⟨v6,rfl,U,G⟩;obtain⟨A6,c6,rfl⟩:=aZ U;have z6:=G.size;simp at z6;have am:Hid (Src w6 A6 k c6 1 (cZ .u8 (List.replicate k x))):=Kx U;have aa:Hid (w6.ownsRow w1 5 1 _ p (cZ .u8 j)):=dZ (Y.out.alloc _) (fun y hy=>G.block y jX);have af:Cur w6 g base bs A c a2 i:=ah.out.step ((bZ (Ag _ _)).trans (G.mono mY));have ai:Hid (Kept (fun x=>x<w1.heap.size/\x≠g) w1 w6):=N.out.trans (Kept.of_below ((bZ (Ag _ _)).trans (G.mono mY)) (fun y hy=>by have:=hy.1;omega));have ay:=hid af;clear U G bq af ah Y N DR;go_wp2_with(at_builtin;refine gZ rfl (.tmp 54) (.tmp 58) 28 rfl w1 5 j0 _ 1 1 underlying28 a4 a7 a0 a5 rfl iX _ _ _ kU aa.out _ _ _ _ kU am.out (Cn _ _) nI kR kR ?_;intro v7 w7 E L ae);obtain⟨A7,c7,rfl⟩:=aZ E;have Q:=fun(y:Nat) hy=>(Ae aa.out y hy).1;have z7:=ai.out.size;have M:Cur w7 g base bs A c a2 i:=JA ay.out L w1 kR (fun y hy=>by have:=aY.out y hy;omega) Q;have ax:Hid (Kept (fun x=>x<w1.heap.size/\x≠g) w1 w7):=ai.out.grown L (fun y hy=>by have:=hy.1;omega) (fun y hy hh=>by have:=Q y hy;have:=hh.1;omega);have av:Hid (w7.ownsRow w1 5 1 (.slice A7 (p+k) c7) (p+k) (cZ .u8 (j++List.replicate k x))):=mE;have ar:=hid M;have an:Hid (FD w7 g=i):=mT;clear E L ae Q M;go_roundw
     case measure=>exact js
     case rel=>exact i9
   ·have g2:(er==0)=false:=nB;have au:=hid (HE.out he);have bB:=hid he;clear he HT HE;go_wp2_with fail;refine DE.out.mono ?_;rintro e w2 ⟨rfl,rfl⟩;go_wp2_with fail;go_ret;rw[au.out];refine⟨_,j,rfl,lT,lU,HC.out,bf.out.trans (ID HK.out fun x hx=>⟨kr,hx.2⟩),fun h=>absurd h bB.out⟩
  ·obtain rfl:p=n:=by omega
   have HF:Hid (a1=T.2.1/\er=T.2.2/\(T.2.2=0->j=T.1)):=by
    by_cases he:er=0
    ·subst he;obtain⟨f,_,h⟩:=HT.out rfl;rw[QN (by rw[HP.out];exact Ai _)]at h;rw[<-h];exact⟨rfl,rfl,fun _=>rfl⟩
    ·have h:=HE.out he;rw[h];exact⟨rfl,rfl,fun h0=>absurd h0 he⟩
   have g1:=iR ((p:Int)<p);clear HT HE;go_wp2_with fail;go_ret;refine⟨_,j,rfl,lT,lU,by rw[<-HF.out.1,<-HF.out.2.1];exact HC.out,bf.out.trans (ID HK.out fun x hx=>⟨kr,hx.2⟩),HF.out.2.2⟩
end Recs
namespace Recs
open Go.RowKit Mem Own Canon NumPut Nums
def EJ(n:Nat)(bs:List Nat)(T:List Nat×Nat×Int):List Nat×Nat×Int:=if T.2.2≠0 then([],T.2.1,T.2.2)else CN n n bs T.2.1 []
def Gh(T L:List Nat×Nat×Int):List Nat×List Nat×Nat×Int:=if L.2.2≠0 then([],[],0,L.2.2)else(T.1,L.1,L.2.1,0)
def AU(n:Nat)(bs:List Nat):List Nat×List Nat×Nat×Int:=Gh (CR n bs 0 0 []) (EJ n bs (CR n bs 0 0 []))
theorem M9{bs:List Nat}{T:List Nat×Nat×Int}(h:(EJ n bs T).2.2=0):T.2.2=0:=by
 by_cases e:T.2.2=0
 ·exact e
 ·unfold EJ at h;rw[Ab e]at h;exact h
theorem I3{fn:Func}{t u v x:Tmp}(h:fn.results=#[.tmp t, .tmp u, .tmp v, .tmp x])(i:Array Value)(P:Program)(w:World):
 (results fn i).run P w= .ok (.tuple #[i.getD t undef,i.getD u undef,i.getD v undef,i.getD x undef]) w:=by
 simp[results,h]
def Jy(R:List Nat×List Nat×Nat×Int)(w:World)(e:Ending)(w':World):Prop:=
 ∃vt vl,e= .returned (.tuple #[vt,vl, .int .i64 (R.2.2.1:Nat),R.2.2.2])/\w'.ownsRow w 41 1 vt R.1.length (cZ .u64 R.1)/\w'.ownsRow w 5 1 vl R.2.1.length (cZ .u8 R.2.1)/\aO w w'
theorem VD(w:World)(A:Option Addr)(n c:Nat)(bs:List Nat)(k:Nat)(hn:bs.length=n)(ar:n<=100000)(h8:∀x∈bs,x<=255)(J:A=none->n=0/\c=0)(ha:Row w w A n 1 (jZ .u8 bs))(hk:k<=20000):
 Calls prog 116 #[.int .i64 (k:Nat), .slice A n c] w (Jy (AU k bs) w):=by
 have D0:=hid (new_any w A n c bs hn ar J ha);have G:bs.length<=100000:=kR
 have D1:=hid (fun wx g base B d h=>aF wx g base bs B d 0 k G h8 hk h);have D2:=hid (fun wx g base B d at_ er h=>Zu wx g base bs B d at_ k er G h8 hk h);have aR:=iR ((k:Int)<0)
 have aS:=iR ((20000:Int)<k)
 have aP:=iR (20000<k)
 unfold AU;obtain⟨T,hT⟩:=iS (CR k bs 0 0 []);rw[<-hT]at D1 ⊢;have Y:=hid (fun h=>M9 (n:=k) (bs:=bs) (T:=T) h);have HL:Hid (∀at_ er,at_=T.2.1->er=T.2.2->(if er≠0 then([],at_,er)else CN k k bs at_ [])=EJ k bs T):=fun at_ er h1 h2=>by subst h1 h2;rfl
 unfold Jy;clear hn J ha h8 ar hT;generalize EJ k bs T=L at *;obtain⟨tl,ta,te⟩:=T;obtain⟨ll,la,le⟩:=L;simp only at *;go_enter func116,ntmps116;go_wp2_with fail;refine D0.out.mono ?_;rintro e w1 ⟨g,B,d,rfl,z,Q⟩;have z1:=Q.size;have aU:=z.blk.lt;have aQ:=z.lo;have ah:=hid z;have ai:=hid Q;clear z Q D0;go_wp2_with fail;have N:=ah.out.step (w':=w1.alloc (.cells #[.pointer (some ⟨g,0,none⟩)] 249)) nJ;have al:Blk (w1.alloc (.cells #[.pointer (some ⟨g,0,none⟩)] 249)) w1 249 #[.pointer (some ⟨g,0,none⟩)]:=Blk.made _ _ _;have U:aO w (w1.alloc (.cells #[.pointer (some ⟨g,0,none⟩)] 249)):=lZ z1 ai.out;generalize w1.alloc (.cells #[.pointer (some ⟨g,0,none⟩)] 249)=w2 at *;have z2:=U.size;have am:w1.heap.size≠g:=kR
 have az:=N.blk.lt;have ak:=hid al;have aq:=hid U;have DT:=hid (D1.out w2 g w B d N);clear N al U ah ai D1;refine DT.out.mono ?_;rintro e w3 ⟨vt,i,rfl,aV,aa,ag,y,au⟩;obtain⟨At,ct,rfl⟩:=aZ aa;have af:=hid (LA ak.out am y);have x3:=af.out.iO 0;have E:=hid aa;have z3:=y.size;have aw:Hid (aO w w3):=aq.out.trans (y.below fun b h=>⟨kR,kR⟩);have Z:=hid au;have DL:=hid (D2.out w3 g w B d ta te ag);rw[HL.out ta te rfl rfl]at DL;clear aa ag y au DT ak aq D2 HL;go_wp2_with fail;refine DL.out.mono ?_;rintro e w4 ⟨vl,aj,rfl,aT,ab,ae,j,M⟩;obtain⟨Al,cl,rfl⟩:=aZ ab;have ay:=hid (LA af.out am j);have x4:=ay.out.iO 0;have z4:=j.size;have ax:Hid (w4.ownsRow w 41 1 (.slice At i.length ct) i.length (cZ .u64 i)):=iZ (Hd E.out az j) z2;have an:=hid (iZ ab (by omega:w.heap.size<=w3.heap.size));have av:Hid (aO w w4):=aw.out.trans (j.below fun b h=>⟨kR,kR⟩);have ac:=hid M;have DE:=hid (CJ w4 g w bs B d la le ae);have DA:=hid (GQ w4 g w bs B d la le ae);clear ab ae j M DL af E aw x3;go_wp2_with fail;refine DE.out.mono ?_;rintro e w5 ⟨rfl,rfl⟩;by_cases he:le=0
 ·subst he;have et:=Z.out (Y.out rfl);have el:=ac.out rfl;have hR:Gh (tl,ta,te) (ll,la,0)=(i,aj,la,0):=by rw[et,el];exact Aa (by simp)
  have HR:=hid hR;clear et el hR Z ac Y;go_wp2_with fail;refine DA.out.mono ?_;rintro e w6 ⟨rfl,rfl⟩;go_wp2_with fail;rw[HR.out];refine AV (I3 rfl _ _ _) rfl ?_;exact⟨_,_,rfl,ax.out,an.out,av.out⟩
 ·have g1:(le != 0)=true:=by simpa using he
  have HR:Hid (Gh (tl,ta,te) (ll,la,le)=([],[],0,le)):=Ab he;clear he Z ac Y;go_wp2_with fail;rw[HR.out];refine AV (I3 rfl _ _ _) rfl ?_;exact⟨_,_,rfl,Aq _ _ _ _,Aq _ _ _ _,av.out⟩
end Recs
namespace Body
open Go.RowKit Mem Own Canon Nums Crc Recs
def FY(k:Nat)(ls:List Nat):Int:=if Bx ls≠0 then Bx ls else if(AU k (vZ ls)).2.2.2≠0 then(AU k (vZ ls)).2.2.2 else if(AU k (vZ ls)).2.2.1<(vZ ls).length then 2 else 0
theorem GA(h8:∀x∈ls,x<=255):∀x∈vZ ls,x<=255:=fun x hx=>by
 unfold vZ at hx;split at hx
 ·exact h8 x (BZ hx)
 ·simp at hx
theorem JC(ls:List Nat):(vZ ls).length<=ls.length:=by
 unfold vZ;split
 ·rw[AN];omega
 ·simp
def M0(w:World)(gb:Nat)(t:TypeId)(cs:Array Value)(k:Nat)(ls:List Nat)(e:Ending)(w':World):Prop:=
 e= .returned (.int .i64 (FY k ls))/\Kept (fun x=>x<w.heap.size/\x≠gb) w w'/\(FY k ls=0->∃vt vl,Blk w' gb t ((cs.setIfInBounds 4 vt).setIfInBounds 5 vl)/\w'.ownsRow w 41 1 vt (AU k (vZ ls)).1.length (cZ .u64 (AU k (vZ ls)).1)/\w'.ownsRow w 5 1 vl (AU k (vZ ls)).2.1.length (cZ .u8 (AU k (vZ ls)).2.1))
theorem Y1(w:World)(gb:Nat)(t:TypeId)(cs:Array Value)(A:Option Addr)(n c k:Nat)(ls:List Nat)(hB:Blk w gb t cs)(ay:6<=cs.size)(ai:41≠t)(ak:5≠t)(hn:ls.length=n)(au:n<=100000)(hc:n<=c)(h8:∀x∈ls,x<=255)(ht:TabAt w)(ha:Row w w A n 1 (jZ .u8 ls))(hk:k<=20000):
 Calls prog 59 #[.pointer (some ⟨gb,4,none⟩), .int .i64 (k:Nat), .slice A n c] w (M0 w gb t cs k ls):=by
 have D0:=JG w A n c ls hn au hc h8 ht ha;unfold EL at D0;have ax:=hB.lt;have am:=GA h8;have aw:=JC ls;unfold M0;obtain⟨R,hR⟩:=iS (FY k ls);rw[<-hR];unfold FY at hR;generalize Bx ls=ce at *;generalize vZ ls=co at *;have aq:co.length<=100000:=kR
 have DR:=hid (fun wx (Ax:Option Addr) (cx:Nat) (hnx:Ax=none->co.length=0/\cx=0) (hax:Row wx wx Ax co.length 1 (jZ .u8 co))=>VD wx Ax co.length cx co k rfl kR am hnx hax hk);generalize AU k co=C at *;obtain⟨ct,cl,ck,Z⟩:=C;unfold Jy at DR;simp only at hR DR;have D0:=hid D0;have HR:=hid hR;have ar:=hid hB;clear hn hc h8 ht ha hR am hB;go_enter func59,ntmps59;go_wp2_with fail;refine D0.out.mono ?_;rintro e w1 ⟨v,rfl,j,J⟩;obtain⟨Ac,cc,rfl⟩:=aZ j;have z:=hid J;have ac:Hid (Kept (fun x=>x<w.heap.size/\x≠gb) w w1):=Kept.of_below J (fun x hx=>hx.1);by_cases G:ce=0
 ·subst G;have hr:=HR.out;rw[Aa (show ¬((0:Int)≠0) from fun h=>h rfl)]at hr;have E:=hid hr;have D1:=hid (DR.out w1 Ac cc (G7 j) (own_row j));obtain⟨m,hm⟩:=iS co.length;rw[<-hm]at D1 hr aq;have HM:=hid hm;clear j J hr DR D0 HR;rw[<-hm];clear hm;go_wp2_with fail;refine D1.out.mono ?_;rintro e w2 ⟨vt,vl,rfl,Y,aa,ag⟩;obtain⟨At,nt,rfl⟩:=aZ Y;obtain⟨Al,nl,rfl⟩:=aZ aa;have ah:Hid (aO w w2):=z.out.trans (ag.mono z.out.size);have y:=hid (ar.out.step (ah.out));have ae:=hid (iZ Y z.out.size);have aj:=hid (iZ aa z.out.size);have Q:Hid (Kept (fun x=>x<w.heap.size/\x≠gb) w w2):=Kept.of_below ah.out (fun x hx=>hx.1);clear Y aa ag D1 z ac;by_cases i:Z=0
  ·subst i;have hr:=E.out;rw[Aa (show ¬((0:Int)≠0) from fun h=>h rfl),<-HM.out]at hr;by_cases L:ck<m
   ·have g1:=iQ ((ck:Int)<m);have av:=iQ (ck<m);have HF:Hid (R=2):=(by rw[Ab L]at hr;exact hr);clear hr E L;go_wp2_with fail;go_ret;rw[HF.out];exact⟨rfl,Q.out,fun h=>absurd h iX⟩
   ·have g1:=iR ((ck:Int)<m);have av:=iR (ck<m);have HF:Hid (R=0):=(by rw[Aa L]at hr;exact hr);have q4:=y.out.cell 4;have q5:=y.out.cell 5;rw[Mk kR]at q4 q5;generalize cs[4]=o4 at q4;generalize cs[5]=o5 at q5;have f4:=y.out.frozen 4;have f5:=y.out.frozen 5;have ab:=hid (y.out.set 4 (.slice At ct.length nt));have M:=hid (sZ (p:=⟨gb,4,none⟩) ae.out (fZ ae.out y.out ai) (.slice At ct.length nt));have N:=hid (sZ (p:=⟨gb,4,none⟩) aj.out (fZ aj.out y.out ak) (.slice At ct.length nt));have an:=hid (ab.out.set 5 (.slice Al cl.length nl));have al:=hid (sZ (p:=⟨gb,5,none⟩) M.out (fZ M.out ab.out ai) (.slice Al cl.length nl));have af:=hid (sZ (p:=⟨gb,5,none⟩) N.out (fZ N.out ab.out ak) (.slice Al cl.length nl));clear hr E L;go_wp2_with fail;go_ret;rw[HF.out];exact⟨rfl,(Q.out.set (fun h=>h.2 rfl) _).set (fun h=>h.2 rfl) _,fun _=>⟨_,_,an.out,al.out,af.out⟩⟩
  ·have gE:(Z != 0)=true:=nC;have HF:Hid (R=Z):=(by have h:=E.out;rw[Ab i]at h;exact h);have U:=hid i;clear i E;go_wp2_with fail;go_ret;rw[HF.out];exact⟨rfl,Q.out,fun h=>absurd h U.out⟩
 ·have gE:(ce != 0)=true:=by simpa using G
  have HF:Hid (R=ce):=by have h:=HR.out;rw[Ab G]at h;exact h
  have U:=hid G;clear G HR j J DR D0;go_wp2_with fail;go_ret;rw[HF.out];exact⟨rfl,ac.out,fun h=>absurd h U.out⟩
end Body
namespace Recs
open Go.RowKit Mem Own Canon NumPut Nums
theorem KB{row:Option Nat}{bs:List Nat}(h:RCur w g base bs A c at_ er)(hg:w.grownBy w' row)(B:Nat)(j:g<B)(i:∀x,(Value.slice A bs.length c).ownBlock=some x->x<B)(hr:∀x,row=some x->B<=x):RCur w' g base bs A c at_ er:=
 ⟨h.blk.grown hg (fun e=>by have:=hr g e.symm;omega),dZ h.own (fun x hx=>hg.block x (Ae h.own x hx).2 (fun e=>by have:=i x hx;have:=hr x e.symm;omega)),h.le,h.lo⟩
theorem own_far{e':TypeId}{s' n':Nat}{v v':Value}{j:List Value}(h:w.ownsRow base e s v n xs)(h2:w.ownsRow i e' s' v' n' j)(z:e'≠e)(hg:w.grownBy w' v'.ownBlock):w'.ownsRow base e s v n xs:=
 dZ h fun y hy=>hg.block y (Ae h y hy).2 fun e2=>by
  rcases Fh h2 h z with e3|e3
  ·rw[e3]at e2;cases e2
  ·exact e3 (by rw[<-e2,hy])
theorem XO(w:World)(A:Option Addr)(n c:Nat)(bs:List Nat)(k:Nat)(hn:bs.length=n)(bi:n<=100000)(h8:∀x∈bs,x<=255)(aV:A=none->n=0/\c=0)(ha:Row w w A n 1 (jZ .u8 bs))(hk:k<=20000):
 Calls prog 222 #[.int .i64 (k:Nat), .slice A n c] w (Jy (AU k bs) w):=by
 obtain⟨j0,bK,bS,bG,bM⟩:=info_parts Pd;obtain⟨i0,bm,bj,bf,be⟩:=info_parts Qd;have D0:=hid (rnew_any w A n c bs hn bi aV ha);have bc:Hid (bs.length<=100000):=mI
 have H8:=hid h8;have bX:=iR ((k:Int)<0)
 have bY:=iR ((20000:Int)<k)
 have bE:=iR (20000<k)
 obtain⟨T,hT⟩:=iS (CR k bs 0 0 []);unfold AU;rw[<-hT];have bn:Hid (CR (k-0) bs 0 0 []=T):=hT.symm;unfold Jy;clear hn aV ha h8 bi hT;go_enter func222,ntmps222;go_wp2_with fail;refine D0.out.mono ?_;rintro e w2 ⟨g,B,d,rfl,aw,a6⟩;have z2:=a6.size;have b4:=aw.blk.lt;have bT:=aw.lo;have a0:Hid (∀y,(Value.slice B bs.length d).ownBlock=some y->y<w2.heap.size):=fun y hy=>(Ae aw.own y hy).2;have bA:=hid aw;have ax:=hid a6;clear aw a6 D0;go_wp2_with fail;go_loopw [9,10,11] (fun v uv iv wr=>∃ (a1 ag p:Nat) (i:List Nat),p<=k/\ag<18446744073709551616/\uv= .int .u64 ag/\iv= .int .i64 p/\Hid (i.length=p)/\Hid (RCur wr g w bs B d a1 0)/\Hid (wr.ownsRow w2 41 1 v p (cZ .u64 i))/\Hid (Kept (fun x=>x<w2.heap.size/\x≠g) w2 wr)/\Hid (CR (k-p) bs a1 ag i=T)) (fun _ _ iv _=>k-(intOf iv).toNat)
 case atStart=>exact⟨0,0,0,[],kR,kR,rfl,rfl,rfl,bA.out,Aq _ _ _ _,Kept.refl _ _,bn.out⟩
 case round=>
  obtain⟨a1,ag,p,i,hp,bV,rfl,rfl,HP,HC,HO,HK,HT⟩:=hrel;have zk:=HK.out.size;obtain⟨va,vc,rfl⟩:=aZ HO.out;clear bn;by_cases b5:p<k
  ·have g1:=iQ ((p:Int)<k);have b6:=iQ (p<k);have Z:=HT.out;rw[show k-p=(k-(p+1))+1 by omega,CR]at Z;have aU:CY bs a1 0<18446744073709551616:=(by have bQ:∀x∈bs.drop a1,x<=255:=fun x hx=>H8.out x (Be hx);have:=(G8 (bs.drop a1) 0 0 bQ kR mY).1;unfold CY;rw[Aa mY];exact this);have D1:=hid (fun wx hx=>OC wx g w bs B d a1 0 bc.out H8.out hx);generalize CY bs a1 0=v1 at *;generalize En bs a1 0=a2 at *;generalize EE bs a1 0=e2 at *;have bW:=OI aU;have D2:=hid (fun wx=>Y7 wx v1 aU);generalize FZ v1=y1 at *;have s1:IntKind.u64.wrap ((ag:Int)+(y1:Int))=(((ag+y1) % 18446744073709551616:Nat):Int):=lG;have bu:(ag+y1) % 18446744073709551616<18446744073709551616:=Nat.mod_lt _ kR;generalize (ag+y1) % 18446744073709551616=E at *;have ab:=hid Z;clear Z HT;go_wp2_with fail;refine(D1.out _ HC.out).mono ?_;rintro e w3 ⟨rfl,an,Y⟩;have z3:=Y.size;have pe:=an.cells.2.2;have aS:=hid an;have az:Hid (w3.ownsRow w2 41 1 (.slice va p vc) p (cZ .u64 i)):=Hd HO.out kR Y;have ay:Hid (Kept (fun x=>x<w2.heap.size/\x≠g) w2 w3):=Jo HK.out zk Y;clear an Y HC HO HK D1;go_wp2_with fail;refine(D2.out _).mono ?_;rintro e w4 ⟨rfl,rfl⟩;by_cases he:e2=0
   ·subst he;have bN:Hid (CR (k-(p+1)) bs a2 E (i++ [E])=T):=(by have h:=ab.out;rw[Aa mY]at h;exact h);clear ab;go_wp2_with(at_builtin;refine gZ rfl (.tmp 43) (.tmp 45) 98 rfl w2 41 j0 _ 1 8 underlying98 bK bS bG bM rfl iX _ _ _ kU (az.out.alloc _) _ 1 1 [.int .u64 (E:Nat)] kU (Src.of_blk (Blk.made_at _ _ _ mY) 1 1 1 rfl) kw nI kR ni ?_;intro v5 w5 ah ba bh;obtain⟨A5,c5,rfl⟩:=aZ ah);have U:=bZ (o:= .cells #[.int .u64 (E:Nat)] 41) (Ag w4 w4);have M:=aS.out.step U;have z:Kept (fun x=>x<w2.heap.size/\x≠g) w2 (w4.alloc (.cells #[.int .u64 (E:Nat)] 41)):=ay.out.trans (Kept.of_below U (fun x hx=>by have:=hx.1;omega));have bk:=z.size;have Q:=fun(y:Nat) hy=>(Ae az.out y hy).1;have ae:RCur w5 g w bs B d a2 0:=KB M ba w2 kR (fun y hy=>by have:=a0.out y hy;omega) Q;have bI:Hid (Kept (fun x=>x<w2.heap.size/\x≠g) w2 w5):=z.grown ba (fun y hy=>by have:=hy.1;omega) (fun y hy hh=>by have:=Q y hy;have:=hh.1;omega);have bP:=hid ae;have bR:Hid (w5.ownsRow w2 41 1 (.slice A5 (p+1) c5) (p+1) (cZ .u64 (i++ [E]))):=(by show World.ownsRow _ _ _ _ _ _ _;rw[show cZ .u64 (i++ [E])=cZ .u64 i++ [.int .u64 (E:Nat)] by simp[cZ]];exact ah);clear ah ba bh U M z ae Q pe;go_roundw
    case measure=>exact jw
    case rel=>go_light;exact⟨a2,E,p+1,i++ [E],kR,bu,i5,i5,mQ,bP.out,bR.out,bI.out,bN.out⟩
   ·have g2:(e2 != 0)=true:=nB;have HR:Hid (Gh T (EJ k bs T)=([],[],0,e2)):=(by have h:=ab.out;rw[Ab he]at h;show _=_;rw[<-h];unfold EJ;rw[Ab he];exact Ab he);clear he ab;go_wp2_with fail;go_quiet (fail);go_wp2_with fail;rw[HR.out];refine AV (I3 rfl _ _ _) rfl ?_;exact⟨_,_,rfl,Aq _ _ _ _,Aq _ _ _ _,below_drewN (ax.out.trans (ay.out.below (fun b h=>⟨kR,kR⟩))) _⟩
  ·obtain rfl:p=k:=by omega
   have a9:=HT.out;rw[Fj,CR]at a9;have g1:=iR ((p:Int)<p);obtain⟨L,hL⟩:=iS (CN p p bs a1 []);have HR:Hid (Gh T (EJ p bs T)=Gh (i,a1,0) L):=(by show _=_;rw[<-a9,hL];rfl);have bg:Hid (∃f,p<=f+0/\CN f p bs a1 []=L):=⟨p,Ai _,hL.symm⟩;obtain⟨w5,rfl⟩:=iS wr;clear HT a9 hL g1;have g1:=iR ((p:Int)<p);go_wp2_with fail;go_loopw [12] (fun v wr=>∃ (a2 q:Nat) (ls:List Nat),q<=p/\Hid (ls.length=q)/\Hid (RCur wr g w bs B d a2 0)/\Hid (wr.ownsRow w2 41 1 (.slice va p vc) p (cZ .u64 i))/\Hid (wr.ownsRow w2 5 1 v q (cZ .u8 ls))/\Hid (Kept (fun x=>x<w2.heap.size/\x≠g) w2 wr)/\Hid (∃f,p<=f+q/\CN f p bs a2 ls=L)) (fun v _=>p-GC v)
   case atStart=>exact⟨a1,0,[],kR,rfl,HC.out,HO.out,Aq _ _ _ _,HK.out,bg.out⟩
   case round=>
    obtain⟨a2,q,ls,hq,HQ,a5,aY,HS,aT,HF⟩:=hrel;obtain⟨vb,cb,rfl⟩:=aZ HS.out;have zr:=aT.out.size;clear HC HO HK bg;by_cases bU:q<p
    ·have g2:=iQ ((q:Int)<p);have b3:=iQ (q<p);obtain⟨f,hf,Z⟩:=HF.out;obtain⟨f,rfl⟩:∃f',f=f'+1:=⟨f-1,kR⟩;rw[CN,Aa (by rw[HQ.out];omega),HQ.out]at Z;obtain⟨m,hm⟩:=iS (p-q);have sm:IntKind.i64.wrap ((p:Int)-(q:Int))=(m:Int):=lD;rw[<-hm]at Z;have b0:q+m<=p/\m<=20000:=kR;have D1:=hid (fun wx hx=>N8 wx g w bs B d a2 0 bc.out hx);have b7:zZ m bs (takeA bs a2 0 1) (Bh bs a2 0 1)<=m:=CI H8.out _ _;unfold Kt Gj at Z;simp only at Z;have D2:=hid (fun wx hx=>Gm wx g w bs B d (takeA bs a2 0 1) (Bh bs a2 0 1) m bc.out H8.out kR hx);generalize Dz bs a2 0=x at *;generalize takeA bs a2 0 1=b1 at *;generalize Bh bs a2 0 1=d1 at *;generalize zZ m bs b1 d1=kk at *;generalize nZ m bs b1 d1=a3 at *;generalize oZ m bs b1 d1=e2 at *;have ab:=hid Z;have bO:=hid hf;clear Z HF hf hm;go_wp2_with fail;refine(D1.out _ a5.out).mono ?_;rintro e w3 ⟨rfl,an,Y⟩;have z3:=Y.size;have aS:=hid an;have az:Hid (w3.ownsRow w2 41 1 (.slice va p vc) p (cZ .u64 i)):=Hd aY.out kR Y;have bl:Hid (w3.ownsRow w2 5 1 (.slice vb q cb) q (cZ .u8 ls)):=Hd HS.out kR Y;have ay:Hid (Kept (fun x=>x<w2.heap.size/\x≠g) w2 w3):=Jo aT.out zr Y;clear an Y a5 aY HS aT D1;go_wp2_with fail;refine(D2.out _ aS.out).mono ?_;rintro e w4 ⟨rfl,M,z⟩;have z4:=z.size;have pe:=M.cells.2.2;have aQ:=hid M;have aR:Hid (w4.ownsRow w2 41 1 (.slice va p vc) p (cZ .u64 i)):=Hd az.out kR z;have af:Hid (w4.ownsRow w2 5 1 (.slice vb q cb) q (cZ .u8 ls)):=Hd bl.out kR z;have ai:Hid (Kept (fun x=>x<w2.heap.size/\x≠g) w2 w4):=Jo ay.out kR z;clear M z aS az bl ay D2;by_cases am:e2=0
     ·subst am;have aa:=ab.out;rw[Aa (show ¬((0:Int)≠0) from fun h=>h rfl)]at aa;by_cases J:kk=0∨ls.getLast?=some x
      ·have aq:Hid (Gh T (EJ p bs T)=([],[],0,2)):=(by rw[Ab J,Ab iX]at aa;show _=_;rw[HR.out,<-aa];rfl);clear aa ab;by_cases ak:kk=0
       ·have gk:((kk:Int)==0)=true:=(by rw[ak];rfl);clear ak J;go_wp2_with fail;rw[aq.out];refine AV (I3 rfl _ _ _) rfl ?_;exact⟨_,_,rfl,Aq _ _ _ _,Aq _ _ _ _,ax.out.trans (ai.out.below (fun b h=>⟨kR,kR⟩))⟩
       ·have gk:((kk:Int)==0)=false:=lH;have al:=J.resolve_left ak
        have aW:0<q:=by
         have h1:=HQ.out;cases ls with
         |nil=>cases al
         |cons=>rw[<-h1];simp
        obtain⟨gq,cq,bb,bD,_⟩:=af.out.form kR;injection bb with e1 e2 e3;subst e1 e3;have cy:w4.cell? ⟨gq,q-1,none⟩=some (.int .u8 (x:Nat)):=(by rw[af.out.cellAt (q-1) kR];unfold cZ;rw[List.getLast?_eq_getElem?,HQ.out]at al;rw[B0,al];rfl);obtain⟨q1,aP⟩:=iS (q-1);rw[<-aP]at cy;have sp:IntKind.i64.wrap ((q:Int)-1)=(q1:Int):=lD;have gp:=iQ ((0:Int)<q);have bp:=iQ (0<q);have bC:(0:Int)<=(q1:Int):=kR;have bB:(q1:Int)<(q:Int):=kR;have gx:((x:Int)==(x:Int))=true:=mY;clear al aP ak J;go_wp2_with fail;rw[aq.out];refine AV (I3 rfl _ _ _) rfl ?_;exact⟨_,_,rfl,Aq _ _ _ _,Aq _ _ _ _,ax.out.trans (ai.out.below (fun b h=>⟨kR,kR⟩))⟩
      ·have ak:¬kk=0:=fun h=>J (.inl h);have gk:((kk:Int)==0)=false:=lH;have bt:0<kk:=kR;have bd:Hid (∃f',p<=f'+(q+kk)/\CN f' p bs a3 (ls++List.replicate kk x)=L):=⟨f,by have:=bO.out;omega,by rw[Aa J,Aa (show ¬((0:Int)≠0) from fun h=>h rfl)]at aa;exact aa⟩;clear aa ab;by_cases aW:q=0
       ·have gp:=iR ((0:Int)<q);have bp:=iR (0<q);clear J ak aW;obtain⟨w6,rfl⟩:=iS w4;go_wp2_with fail;go_loopw [12,15] (fun v iv wr=>∃j:Nat,j<=kk/\iv= .int .i64 j/\Hid (RCur wr g w bs B d a3 0)/\Hid (wr.ownsRow w2 41 1 (.slice va p vc) p (cZ .u64 i))/\Hid (wr.ownsRow w2 5 1 v (q+j) (cZ .u8 (ls++List.replicate j x)))/\Hid (Kept (fun x=>x<w2.heap.size/\x≠g) w2 wr)) (fun _ iv _=>kk-(intOf iv).toNat)
        case atStart=>exact⟨0,kR,rfl,aQ.out,aR.out,by rw[List.replicate_zero,Fl];exact af.out,ai.out⟩
        case round=>
         obtain⟨j,hj,rfl,au,av,N,aj⟩:=hrel;obtain⟨bH,bF,rfl⟩:=aZ N.out;have z7:=aj.out.size;clear aQ aR af ai;by_cases bL:j<kk
         ·have gj:=iQ ((j:Int)<kk);have bq:=iQ (j<kk);go_wp2_with(at_builtin;refine gZ rfl (.tmp 90) (.tmp 92) 28 rfl w2 5 i0 _ 1 1 underlying28 bm bj bf be rfl iX _ _ _ kU (N.out.alloc _) _ 1 1 [.int .u8 (x:Nat)] kU (Src.of_blk (Blk.made_at _ _ _ mY) 1 1 1 rfl) kw nI kR ni ?_;intro v8 w8 G ac ar;obtain⟨A8,c8,rfl⟩:=aZ G);have U:=bZ (o:= .cells #[.int .u8 (x:Nat)] 5) (Ag wr wr);have M:=au.out.step U;have z:Kept (fun x=>x<w2.heap.size/\x≠g) w2 (wr.alloc (.cells #[.int .u8 (x:Nat)] 5)):=aj.out.trans (Kept.of_below U (fun x hx=>by have:=hx.1;omega));have bk:=z.size;have Q:=fun(y:Nat) hy=>(Ae N.out y hy).1;have ae:RCur w8 g w bs B d a3 0:=KB M ac w2 kR (fun y hy=>by have:=a0.out y hy;omega) Q;have a7:Hid (Kept (fun x=>x<w2.heap.size/\x≠g) w2 w8):=z.grown ac (fun y hy=>by have:=hy.1;omega) (fun y hy hh=>by have:=Q y hy;have:=hh.1;omega);have a8:=hid ae;have a4:Hid (w8.ownsRow w2 41 1 (.slice va p vc) p (cZ .u64 i)):=own_far (av.out.alloc _) (N.out.alloc _) iX ac;have aX:Hid (w8.ownsRow w2 5 1 (.slice A8 (q+j+1) c8) (q+(j+1)) (cZ .u8 (ls++List.replicate (j+1) x))):=mF;clear G ac ar U M z ae Q;go_roundw
          case measure=>exact jw
          case rel=>exact jh
         ·obtain rfl:j=kk:=by omega
          have gj:=iR ((j:Int)<j);go_wp2_with fail;go_roundw
          case measure=>exact ju
          case rel=>exact ja
       ·obtain⟨gq,cq,bb,bD,_⟩:=af.out.form kR;injection bb with e1 e2 e3;subst e1 e3;obtain⟨y,hy⟩:∃y,ls[q-1]? =some y:=⟨_,AE kj⟩;have bJ:y≠x:=fun e=>J (.inr (by rw[List.getLast?_eq_getElem?,HQ.out,hy,e]));have cy:w4.cell? ⟨gq,q-1,none⟩=some (.int .u8 (y:Nat)):=(by rw[af.out.cellAt (q-1) kR];unfold cZ;rw[B0,hy];rfl);obtain⟨q1,aP⟩:=iS (q-1);rw[<-aP]at cy;have sp:IntKind.i64.wrap ((q:Int)-1)=(q1:Int):=lD;have gp:=iQ ((0:Int)<q);have bp:=iQ (0<q);have bC:(0:Int)<=(q1:Int):=kR;have bB:(q1:Int)<(q:Int):=kR;have gx:((y:Int)==(x:Int))=false:=lH;clear hy aP ak J bJ aW;obtain⟨w6,rfl⟩:=iS w4;go_wp2_with fail;go_loopw [12,15] (fun v iv wr=>∃j:Nat,j<=kk/\iv= .int .i64 j/\Hid (RCur wr g w bs B d a3 0)/\Hid (wr.ownsRow w2 41 1 (.slice va p vc) p (cZ .u64 i))/\Hid (wr.ownsRow w2 5 1 v (q+j) (cZ .u8 (ls++List.replicate j x)))/\Hid (Kept (fun x=>x<w2.heap.size/\x≠g) w2 wr)) (fun _ iv _=>kk-(intOf iv).toNat)
        case atStart=>exact⟨0,kR,rfl,aQ.out,aR.out,by rw[List.replicate_zero,Fl];exact af.out,ai.out⟩
        case round=>
         obtain⟨j,hj,rfl,au,av,N,aj⟩:=hrel;obtain⟨bH,bF,rfl⟩:=aZ N.out;have z7:=aj.out.size;clear aQ aR af ai;by_cases bL:j<kk
         ·have gj:=iQ ((j:Int)<kk);have bq:=iQ (j<kk);go_wp2_with(at_builtin;refine gZ rfl (.tmp 90) (.tmp 92) 28 rfl w2 5 i0 _ 1 1 underlying28 bm bj bf be rfl iX _ _ _ kU (N.out.alloc _) _ 1 1 [.int .u8 (x:Nat)] kU (Src.of_blk (Blk.made_at _ _ _ mY) 1 1 1 rfl) kw nI kR ni ?_;intro v8 w8 G ac ar;obtain⟨A8,c8,rfl⟩:=aZ G);have U:=bZ (o:= .cells #[.int .u8 (x:Nat)] 5) (Ag wr wr);have M:=au.out.step U;have z:Kept (fun x=>x<w2.heap.size/\x≠g) w2 (wr.alloc (.cells #[.int .u8 (x:Nat)] 5)):=aj.out.trans (Kept.of_below U (fun x hx=>by have:=hx.1;omega));have bk:=z.size;have Q:=fun(y:Nat) hy=>(Ae N.out y hy).1;have ae:RCur w8 g w bs B d a3 0:=KB M ac w2 kR (fun y hy=>by have:=a0.out y hy;omega) Q;have a7:Hid (Kept (fun x=>x<w2.heap.size/\x≠g) w2 w8):=z.grown ac (fun y hy=>by have:=hy.1;omega) (fun y hy hh=>by have:=Q y hy;have:=hh.1;omega);have a8:=hid ae;have a4:Hid (w8.ownsRow w2 41 1 (.slice va p vc) p (cZ .u64 i)):=own_far (av.out.alloc _) (N.out.alloc _) iX ac;have aX:Hid (w8.ownsRow w2 5 1 (.slice A8 (q+j+1) c8) (q+(j+1)) (cZ .u8 (ls++List.replicate (j+1) x))):=mF;clear G ac ar U M z ae Q;go_roundw
          case measure=>exact jw
          case rel=>exact jh
         ·obtain rfl:j=kk:=by omega
          have gj:=iR ((j:Int)<j);go_wp2_with fail;go_roundw
          case measure=>exact ju
          case rel=>exact ja
     ·have gE:(e2 != 0)=true:=(by simpa using am);have aq:Hid (Gh T (EJ p bs T)=([],[],0,e2)):=(by have aa:=ab.out;rw[Ab am,Ab am]at aa;show _=_;rw[HR.out,<-aa];exact Ab am);clear am ab;go_wp2_with fail;go_quiet (fail);go_wp2_with fail;rw[aq.out];refine AV (I3 rfl _ _ _) rfl ?_;exact⟨_,_,rfl,Aq _ _ _ _,Aq _ _ _ _,below_drewN (ax.out.trans (ai.out.below (fun b h=>⟨kR,kR⟩))) _⟩
    ·obtain rfl:q=p:=by omega
     have aq:Hid (Gh T (EJ q bs T)=(i,ls,a2,0)):=(by obtain⟨f,_,h⟩:=HF.out;rw[QN lV]at h;show _=_;rw[HR.out,<-h];exact Aa (fun h=>h rfl));have gq:=iR ((q:Int)<q);have pa:=a5.out.cells.2.1;clear HF;go_wp2_with fail;go_quiet (fail);go_wp2_with fail;rw[aq.out];refine AV (I3 rfl _ _ _) rfl ?_;exact⟨_,_,rfl,by rw[HP.out];exact iZ aY.out z2,by rw[HQ.out];exact iZ HS.out z2,below_drewN (ax.out.trans (aT.out.below (fun b h=>⟨kR,kR⟩))) _⟩
end Recs
end Go.Proofs.YtfgdoknipbpfhaaGreatDoor
