/- slices.Repeat of one -/
import Derived.Test.YtfgdoknipbpfhaaGreatDoorZBodyBack22
import Derived.Lib.Zigzag
import Derived.Laws.CopyOwn
namespace Go.Proofs.YtfgdoknipbpfhaaGreatDoor
open Go.Proofs.Tryz
open Go.Lib (hid)
set_option maxHeartbeats 4000000
set_option maxRecDepth 100000
variable{base c g i m n s:Nat}{a b w w':World}{e:TypeId}{xs:List Value}{A:Option Addr}{ls:List Nat}
namespace Recs
open Go.RowKit Mem Own Canon NumPut
open Crc (Fv)
def G9(z:Nat):Nat:=if z % 2=1 then 18446744073709551615-z / 2 else z / 2
theorem gX{z:Nat}(h:z<18446744073709551616):G9 z<18446744073709551616:=by unfold G9;split<;>omega
theorem fV(w:World)(z:Nat)(hz:z<18446744073709551616):
 Calls prog 242 #[.int .u64 z] w fun e w'=>e= .returned (.int .u64 (G9 z:Nat))/\w'=w:=by
 obtain⟨y,hy⟩:=ii (G9 z);rw[<-hy];unfold G9 at hy;have ha:bits .and .u64 (z:Int) 1=((z % 2:Nat):Int):=by have h:=bits_and_u64_nat z 1 hz nj;rw[Nat.and_one_is_mod]at h;exact h
 have e:bits .xor .u64 ((z:Int) / 2) (IntKind.u64.wrap (-(bits .and .u64 (z:Int) 1)))=(y:Int):=by
  rw[ha];by_cases h:z % 2=1
  ·rw[Ab h]at hy;have e2:IntKind.u64.wrap (-((z % 2:Nat):Int))=((2 ^ 64-1:Nat):Int):=(by rw[Bt,h];omega);rw[e2,show(z:Int) / 2=((z / 2:Nat):Int) by omega,bits_xor_u64_nat _ _ nj ip,Nat.xor_comm,Lib.xor_ones64 _ nj];omega
  ·rw[Aa h]at hy;have e2:IntKind.u64.wrap (-((z % 2:Nat):Int))=((0:Nat):Int):=pk;rw[e2,show(z:Int) / 2=((z / 2:Nat):Int) by omega,bits_xor_u64_nat _ _ nj ip,Nat.xor_zero];omega
 have HE:=hid e;clear hy e ha;go_enter func242,ntmps242;go_wp2_with fail;go_ret;exact⟨If HE.out,rfl⟩
theorem XU(w:World)(k:Nat)(hk:k<=100000):
 Calls prog 327 #[.int .u64 1, .int .u64 k] w fun e w'=>e= .returned (.tuple #[.int .u64 0, .int .u64 k])/\w'=w:=by
 have a1:bits .and .u64 (1:Int) 4294967295=1:=ip
 have a0:bits .and .u64 (0:Int) 4294967295=0:=ip
 have ak:bits .and .u64 (k:Int) 4294967295=(k:Int):=by have h:=bits_and_u64_nat k 4294967295 nj nj;rw[show 4294967295=2 ^ 32-1 from rfl,NZ,Nat.mod_eq_of_lt nj]at h;exact h
 have sk:(k:Int) / 4294967296=0:=nj
 have wk:IntKind.u64.wrap (k:Int)=(k:Int):=pk
 go_enter func327,ntmps327;go_wp2_with fail;go_ret2;exact⟨rfl,rfl⟩
theorem eY(w:World)(k:Nat)(hk:k<=100000):
 Calls prog 293 #[.int .u64 1, .int .u64 k] w fun e w'=>e= .returned (.tuple #[.int .u64 0, .int .u64 k])/\w'=w:=by
 have D:=hid (XU w k hk);go_enter func293,ntmps293;go_wp2_with fail;refine D.out.mono ?_;rintro e w1 ⟨rfl,rfl⟩;go_wp2_with fail;go_ret2;exact⟨rfl,rfl⟩
def Fe(x n k:Nat):List Value:=List.replicate n (.int .u8 (x:Nat))++List.replicate (k-n) (.int .u8 0)
theorem R7{x k:Nat}(h:n<=k):(Fe x n k).length=k:=by simp[Fe];omega
theorem Xw(x k:Nat):madeCells #[.int .u8 0] k=(Fe x 0 k).toArray:=by
 apply Array.ext_getElem?
 intro i;by_cases h:i<k
 ·simp[Fe,madeCells,h,Nat.mod_one]
 ·simp[Fe,madeCells,h]
theorem RN(x n m k:Nat):splice (Fe x n k) n (List.replicate m (.int .u8 (x:Nat)))=Fe x (n+m) k:=by
 unfold splice Fe;have e1:(List.replicate n (Value.int .u8 (x:Nat))++List.replicate (k-n) (Value.int .u8 0)).take n=List.replicate n (Value.int .u8 (x:Nat)):=by rw[List.take_append_of_le_length qT];simp
 have e2:(List.replicate n (Value.int .u8 (x:Nat))++List.replicate (k-n) (Value.int .u8 0)).drop (n+m)=List.replicate (k-(n+m)) (Value.int .u8 0):=by rw[List.drop_append];simp;omega
 rw[DQ,e1,e2,<-AI,List.replicate_append_replicate]
theorem Xa(x k:Nat):Fe x k k=cZ .u8 (List.replicate k x):=by simp[Fe,cZ]
theorem U8{a v:Value}(h:(List.replicate m a)[i]? =some v):i<m/\v=a:=by obtain⟨hj,hv⟩:=BW.1 h;rw[DQ]at hj;rw[List.getElem_replicate]at hv;exact⟨hj,hv.symm⟩
theorem lH:(prog.info? 5).map (fun i=>(i.zero,i.size,i.bytes))=some (some (.int .u8 0),1,1):=my
theorem kI(n:Nat)(hn:n<=8388608)(w:World):(Instr.makeSlice 28 (.int .i64 (n:Int)) (.int .i64 (n:Int))).run prog w=
 .ok (.slice (some ⟨w,0,none⟩) n n) (w.alloc (.cells (madeCells #[.int .u8 0] n) 5)):=by
 obtain⟨i0,hi,y,i,j⟩:=info_parts lH;have h:=run_make (P:=prog) w 28 5 i0 (.int .u8 0) underlying28 hi y .i64 .i64 (n:Int) (n:Int) nj (Int.le_refl _) qu nj;simp only[Int.toNat_natCast]at h;simpa[i,Value.cells]using h
theorem Ry:(prog.info? 5).map (·.size)=some 1:=my
theorem mL(w:World)(g c x k:Nat)(hk:k<=100000)(hx:Blk w g 5 #[.int .u8 (x:Nat)]):
 Calls prog 244 #[.slice (some ⟨g,0,none⟩) 1 c, .int .i64 (k:Nat)] w fun e w'=>∃v,e= .returned v/\w'.ownsRow w 5 1 v k (cZ .u8 (List.replicate k x))/\Below w w w':=by
 have D:=hid (eY w k hk);have hm:=kI k nj;have Z:=ig ((k:Int)<0)
 have J:=ig ((9223372036854775807:Int)<k)
 have z:=ig (9223372036854775807<k)
 have wk:IntKind.u64.wrap (k:Int)=(k:Int):=pk
 have wi:IntKind.i64.wrap (k:Int)=(k:Int):=Ar _ nj;have c0:=hx.ia 0;have hg:=hx.lt;have ag:=hid c0;clear hx;rw[Xw x k]at hm;go_enter func244,ntmps244;go_wp2_with fail;refine D.out.mono ?_;rintro e w1 ⟨rfl,rfl⟩;obtain⟨m,i⟩:=ii (Nat.min 1 k);have ai:m<=k:=by rw[i];exact Nat.min_le_right _ _
 have ak:m<=1:=by rw[i];exact Nat.min_le_left _ _
 have HM:=hid i;have ab:Hid (0<k->0<m):=fun h=>by rw[i];exact Nat.lt_min.2 ⟨nj,h⟩
 clear i;go_wp2_with((with_reducible show wpList _ _ _ (⟨some 33,_,_,_,_,_⟩ :: _) _ _);refine wpList_copy_splice rfl (.tmp 31) (.tmp 32) 28 28 rfl 5 underlying28 Ry (some ⟨w1,0,none⟩) (some ⟨g,0,none⟩) k k 1 c nm nm w1.heap.size 0 (Fe x 0 k) 5 (heap_alloc_new w1 _) (List.replicate m (.int .u8 (x:Nat))) (by rw[DQ];exact HM.out) (fun _=>⟨rfl,_,rfl,fun j v hv=>by obtain⟨hj,rfl⟩:=U8 hv;obtain rfl:j=0:=nj;exact(World.cell?_alloc_lt w1 _ ⟨g,0,none⟩ hg).trans ag.out⟩) (by rw[DQ,R7 (CA k)];omega) (by intro v hv;rw[(List.mem_replicate.1 hv).2];rfl) w1.heap.size w1 (aZ (Ae _ _)) (Ak _) ?_;intro w2 y E);have Q:=hid E;rw[RN]at y;rw[BP]at y;have U:Hid (0<k->0<m):=ab.out;clear E c0 hm D HM ab J z Z wk wi;generalize hb:w1.heap.size=b at *;have M:=hid hb;clear hb;go_loopw [8] (fun nv wr=>∃q:Nat,q<=k/\nv= .int .i64 q/\Hid (0<k->0<q)/\Hid (wr.heap[b]? =some (.cells (Fe x q k).toArray 5 (0,0)))/\Hid (Below b w1 wr)) (fun nv _=>k-(intOf nv).toNat)
 case atStart=>exact⟨m,ai,rfl,U.out,y.out,Q.out⟩
 case round=>
  obtain⟨q,hq,rfl,HQ,HG,HB⟩:=hrel;clear y Q U;by_cases an:q<k
  ·have g1:=ic ((q:Int)<k);have am:=ic (q<k);have aj:0<q:=HQ.out nj;have Y:AR (some ⟨b,0,none⟩) q k 1=some ⟨b,q,none⟩:=(by unfold AR;rw[Aa nj];show some (Addr.add ⟨b,0,none⟩ (q*1))=_;rw[Gv,BP,CO]);have af:=fun wx=>FK (P:=prog) (t:=28) (s:=1) underlying28 (fun _=>by kernel_rfl) (some ⟨b,0,none⟩) k k .i64 (q:Int) q rfl hq wx;rw[Y]at af;have al:=fun wx=>Fv (P:=prog) (t:=28) (s:=1) underlying28 (fun _=>by kernel_rfl) (some ⟨b,0,none⟩) k k .i64 (q:Int) q rfl hq (by intro a ha;injection ha with ha;subst ha;exact Gv _ _ _) wx;obtain⟨d,hd⟩:=ii (Nat.min q (k-q));have aa:q+d<=k/\0<d/\d<=q:=(by have h1:d<=k-q:=(by rw[hd];exact Nat.min_le_right _ _);have h2:d<=q:=(by rw[hd];exact Nat.min_le_left _ _);have h3:0<d:=(by rw[hd];exact Nat.lt_min.2 ⟨aj,nj⟩);omega);have S1:Hid (IntKind.i64.wrap ((q:Int)+(d:Int))=((q+d:Nat):Int)):=(by show _=_;rw[Ar _ nj];omega);have S2:Hid (wrap64 ((q:Int)+(d:Int))=((q+d:Nat):Int)):=(by show _=_;rw[Jh _ ⟨nj,nj⟩];omega);have HD:=hid hd;have N:Hid (∀j v,(List.replicate d (Value.int .u8 (x:Nat)))[j]? =some v->wr.cell? (Addr.add ⟨b,0,none⟩ j)=some v):=fun j v hv=>by obtain⟨hj,rfl⟩:=U8 hv;have ac:j<q:=nj;rw[Gv,BP,(show Blk wr b _ _ from HG.out).cell j];simp[Fe,List.getElem?_append,ac]
   clear hd Y;have s1:=S1.out;have s2:=S2.out;go_wp2_with fail;go_region_law((refine step_copy_splice rfl (.tmp 41) (.tmp 44) 28 28 rfl 5 underlying28 Ry (some ⟨b,q,none⟩) (some ⟨b,0,none⟩) (k-q) (k-q) q k (by go_simp) (by go_simp) b q (Fe x q k) 5 HG.out (List.replicate d (.int .u8 (x:Nat))) (by rw[DQ];exact HD.out) (fun _=>⟨rfl,_,rfl,N.out⟩) (by rw[DQ,R7 hq];exact aa.1) (by intro v hv;rw[(List.mem_replicate.1 hv).2];rfl) b w1 HB.out.drew (Ak _) ?_);intro w4 G L)
   all_goals
    have ah:Hid (w4.heap[b]? =some (.cells (Fe x (q+d) k).toArray 5 (0,0))):=(by have h:=G.out;rw[RN]at h;exact h);have ae:=hid L;clear G L
    go_simp
    go_wp2_with fail;go_roundw
    case measure=>exact jq
    case rel=>go_light;exact⟨q+d,aa.1,iw,fun _=>nj,ah.out,ae.out⟩
  ·obtain rfl:q=k:=by omega
   have g1:=ig ((q:Int)<q);go_wp2_with fail;go_ret;refine⟨_,rfl,⟨rk, .inr ⟨b,q,(Fe x q q).toArray,rfl,?_,HG.out,Ak _,rE,by simp[Fe],?_⟩⟩,?_⟩
   ·rw[<-M.out];exact Ak _
   ·rw[CO,<-Xa];exact Bw (by simp[Fe])
   ·rw[<-M.out]at HB;exact HB.out
end Recs
namespace Recs
open Go.RowKit Mem Own Canon NumPut Nums
def FX:Nat->List Nat->Nat->Nat->List Nat->List Nat×Nat×Int
 |0,_,at_,_,acc=>(acc,at_,0)
 |k+1,bs,at_,was,acc=>if I9 bs at_ 0≠0 then([],Jb bs at_ 0,I9 bs at_ 0)else FX k bs (Jb bs at_ 0) ((was+G9 (Hq bs at_ 0)) % 18446744073709551616) (acc++ [(was+G9 (Hq bs at_ 0)) % 18446744073709551616])
theorem Jm{K K':Nat->Prop}(h:Kept K a b)(hi:∀x,K' x->K x):Kept K' a b:=⟨h.os,h.tape,h.output,h.size,fun x hx=>h.block x (hi x hx)⟩
theorem PV{B:Nat}{c:World}(h:Kept (fun x=>x<B/\x≠g) a b)(hB:B<=b.heap.size)(k:Kept (BE g b) b c):Kept (fun x=>x<B/\x≠g) a c:=h.trans (Jm k fun x hx=>⟨mo,hx.2⟩)
theorem Mi{v:Value}(h:w.ownsRow base e s v n xs)(hg:g<base)(k:Kept (BE g w) w w'):w'.ownsRow base e s v n xs:=
 eZ h fun x hx=>k.block x ⟨(Aj h x hx).2,by have:=(Aj h x hx).1;omega⟩
theorem Md{b:Nat}{t:TypeId}{cs:Array Value}(h:Blk w b t cs)(hg:b≠g)(k:Kept (BE g w) w w'):Blk w' b t cs:=(k.block b ⟨h.lt,hg⟩).trans h
theorem LN{k:IntKind}(h:w.ownsRow base e 1 (.slice A n c) n (cZ k ls)):Src w A n c 1 (cZ k ls):=by
 obtain⟨h0,h1⟩:=h;refine⟨h0,?_⟩;rcases h1 with ⟨hv,_⟩|⟨g,y,cur,hv,_,hh,_,_,_,i⟩
 ·injection hv with e1 e2 e3;exact .inl ⟨e1,e2,e3⟩
 ·injection hv with e1 e2 e3;refine .inr ⟨⟨g,0,none⟩,e1,fun j u hu=> ?_⟩;rw[Gv,BP,Blk.cell hh];rw[<-i,Gg]at hu;split at hu
  ·simpa using hu
  ·cases hu
theorem Kj{row:Option Nat}{at_:Nat}{bs:List Nat}{er:Int}(h:Cur w g base bs A c at_ er)(hg:w.grownBy w' row)(B:Nat)(j:g<B)(i:∀x,(Value.slice A bs.length c).ownBlock=some x->x<B)(hr:∀x,row=some x->B<=x):Cur w' g base bs A c at_ er:=
 ⟨h.blk.grown hg (fun e=>by have:=hr g e.symm;omega),eZ h.own (fun x hx=>hg.block x (Aj h.own x hx).2 (fun e=>by have:=i x hx;have:=hr x e.symm;omega)),h.le,h.lo⟩
def lenS:Value->Nat
 | .slice _ n _=>n
 |_=>0
theorem WJ:(prog.info? 41).map (fun i=>(i.zero,i.size,i.bytes))=some (some (.int .u64 0),1,8):=my
def Vp(w:World)(n g base:Nat)(bs:List Nat)(A:Option Addr)(c:Nat)(T:List Nat×Nat×Int)(e:Ending)(w':World):Prop:=
 ∃v acc,e= .returned v/\acc.length<=n/\w'.ownsRow w 41 1 v acc.length (cZ .u64 acc)/\Cur w' g base bs A c T.2.1 T.2.2/\Kept (BE g w) w w'/\(T.2.2=0->acc=T.1)
theorem o6(w:World)(g base:Nat)(bs:List Nat)(A:Option Addr)(c at_ n:Nat)(ah:bs.length<=100000)(h8:∀x∈bs,x<=255)(hn:n<=20000)(h:Cur w g base bs A c at_ 0):
 Calls prog 193 #[.agg #[.pointer (some ⟨g,0,none⟩)], .int .i64 (n:Nat)] w (Vp w n g base bs A c (FX n bs at_ 0 [])):=by
 obtain⟨j0,a9,a6,aq,ba⟩:=info_parts WJ;obtain⟨T,hT⟩:=ii (FX n bs at_ 0 []);rw[<-hT];have aa:Hid (FX (n-0) bs at_ 0 []=T):=hT.symm;have H8:=hid h8;have a3:=hid ah;have bf:=h.blk.lt;have H:=hid h;have aw:Hid (∀y,(Value.slice A bs.length c).ownBlock=some y->y<w.heap.size):=fun y hy=>(Aj h.own y hy).2;unfold Vp;clear h h8 hT ah;go_enter func193,ntmps193;go_wp2_with fail;have af:=H.out.step (w':=w.alloc (.cells #[.pointer (some ⟨g,0,none⟩)] 249)) (aZ (Ae _ _));have M:Blk (w.alloc (.cells #[.pointer (some ⟨g,0,none⟩)] 249)) w 249 #[.pointer (some ⟨g,0,none⟩)]:=Blk.made _ _ _;have Y:Kept (BE g w) w (w.alloc (.cells #[.pointer (some ⟨g,0,none⟩)] 249)):=Kept.of_below (B:=w.heap.size) (aZ (Ae _ _)) (fun x hx=>hx.1);generalize w.alloc (.cells #[.pointer (some ⟨g,0,none⟩)] 249)=w1 at *;have z1:=Y.size;have az:=M.lt;have a0:=hid af;have an:=hid M;have ac:=hid Y;have am:w.heap.size≠g:=nj
 clear af M Y H;go_loopw [5,6] (fun v uv wr=>∃ (a1:Nat) (er:Int) (z p:Nat) (j:List Nat),p<=n/\z<18446744073709551616/\uv= .int .u64 z/\Hid (j.length=p)/\Hid (Cur wr g base bs A c a1 er)/\Hid (wr.ownsRow w1 41 1 v p (cZ .u64 j))/\Hid (Kept (fun x=>x<w1.heap.size/\x≠g) w1 wr)/\Hid (er=0->FX (n-p) bs a1 z j=T)/\Hid (er≠0->T=([],a1,er))) (fun v _ _=>n-lenS v)
 case atStart=>exact⟨at_,0,0,0,[],nj,nj,rfl,rfl,a0.out,AE _ _ _ _,Kept.refl _ _,fun _=>aa.out,fun h=>absurd rfl h⟩
 case round=>
  obtain⟨a1,er,z,p,j,hp,bd,rfl,HP,HC,HO,HK,HT,HE⟩:=hrel;have zk:=HK.out.size;obtain⟨va,vc,rfl⟩:=bZ HO.out;have xb:Blk wr w 249 #[.pointer (some ⟨g,0,none⟩)]:=(HK.out.block _ ⟨az,am⟩).trans an.out;have x0:=xb.ia 0;have XB:=hid xb;clear xb aa;by_cases bh:p<n
  ·have g1:=ic ((p:Int)<n);have be:=ic (p<n);have DE:=hid (Dt wr g base bs A c a1 er HC.out);by_cases he:er=0
   ·subst he;have G:=HT.out rfl;rw[show n-p=(n-(p+1))+1 by omega,FX]at G;have L:Hq bs a1 0<18446744073709551616:=(by have ar:∀x∈bs.drop a1,x<=255:=fun x hx=>H8.out x (Ck hx);have:=(J0 (bs.drop a1) 0 0 ar nj qT).1;unfold Hq;rw[Aa qT];exact this);have D1:=hid (fun wx hx=>num_any wx g base bs A c a1 0 a3.out H8.out hx);generalize Hq bs a1 0=v1 at *;generalize Jb bs a1 0=a2 at *;generalize I9 bs a1 0=e2 at *;have bc:=gX L;have D2:=hid (fun wx=>fV wx v1 L);generalize G9 v1=y1 at *;have s1:IntKind.u64.wrap ((z:Int)+(y1:Int))=(((z+y1) % 18446744073709551616:Nat):Int):=pk;have bb:(z+y1) % 18446744073709551616<18446744073709551616:=Nat.mod_lt _ nj;generalize (z+y1) % 18446744073709551616=i at *;have ab:Hid ((e2=0->FX (n-(p+1)) bs a2 i (j++ [i])=T)/\(e2≠0->T=([],a2,e2))):=⟨fun h=>by rw[Aa rn]at G;exact G,fun h=>by rw[Ab h]at G;exact G.symm⟩;clear G HT HE;go_wp2_with fail;refine DE.out.mono ?_;rintro e w2 ⟨rfl,rfl⟩;go_wp2_with fail;refine(D1.out _ HC.out).mono ?_;rintro e w3 ⟨rfl,ak,J⟩;have z3:=J.size;have au:=hid ak;have ae:Hid (w3.ownsRow w1 41 1 (.slice va p vc) p (cZ .u64 j)):=Mi HO.out nj J;have a5:Hid (Kept (fun x=>x<w1.heap.size/\x≠g) w1 w3):=PV HK.out zk J;clear ak J x0 HC HO HK DE D1 XB;go_wp2_with fail;refine(D2.out _).mono ?_;rintro e w4 ⟨rfl,rfl⟩;go_wp2_with(at_builtin;refine iZ rfl (.tmp 23) (.tmp 25) 98 rfl w1 41 j0 _ 1 8 underlying98 a9 a6 aq ba rfl ip _ _ _ nm (ae.out.alloc _) _ 1 1 [.int .u64 (i:Nat)] nm (Src.of_blk (Blk.made_at _ _ _ qT) 1 1 1 rfl) mq rE nj rg ?_;intro v5 w5 E N ag;obtain⟨A5,c5,rfl⟩:=bZ E);have Z:=aZ (o:= .cells #[.int .u64 (i:Nat)] 41) (Ae w4 w4);have ai:=au.out.step Z;have U:Kept (fun x=>x<w1.heap.size/\x≠g) w1 (w4.alloc (.cells #[.int .u64 (i:Nat)] 41)):=a5.out.trans (Kept.of_below Z (fun x hx=>by have:=hx.1;omega));have bg:=U.size;have Q:∀y,(Value.slice va p vc).ownBlock=some y->w1.heap.size<=y:=fun y hy=>(Aj ae.out y hy).1;have aj:Cur w5 g base bs A c a2 e2:=Kj ai N w1 nj (fun y hy=>by have:=aw.out y hy;omega) Q;have al:Hid (Kept (fun x=>x<w1.heap.size/\x≠g) w1 w5):=U.grown N (fun y hy=>by have:=hy.1;omega) (fun y hy hh=>by have:=Q y hy;have:=hh.1;omega);have av:=hid aj;have ay:Hid (w5.ownsRow w1 41 1 (.slice A5 (p+1) c5) (p+1) (cZ .u64 (j++ [i]))):=(by show World.ownsRow _ _ _ _ _ _ _;rw[show cZ .u64 (j++ [i])=cZ .u64 j++ [.int .u64 (i:Nat)] by simp[cZ]];exact E);clear E N ag Z ai U aj Q;go_roundw
    case measure=>go_light;simp[lenS];omega
    case rel=>go_light;exact⟨a2,e2,i,p+1,j++ [i],nj,bb,iw,by show _=_;rw[Ag,HP.out];rfl,av.out,ay.out,al.out,ab.out.1,ab.out.2⟩
   ·have g2:(er==0)=false:=rA;have ax:=hid (HE.out he);have a4:=hid he;clear he HT HE;go_wp2_with fail;refine DE.out.mono ?_;rintro e w2 ⟨rfl,rfl⟩;go_wp2_with fail;go_ret;rw[ax.out];refine⟨_,j,rfl,pz,pU,HC.out,ac.out.trans (Jm HK.out fun x hx=>⟨mo,hx.2⟩),fun h=>absurd h a4.out⟩
  ·obtain rfl:p=n:=by omega
   have HF:Hid (a1=T.2.1/\er=T.2.2/\(T.2.2=0->j=T.1)):=by
    by_cases he:er=0
    ·subst he;have h:=HT.out rfl;rw[Gf,FX]at h;rw[<-h];exact⟨rfl,rfl,fun _=>rfl⟩
    ·have h:=HE.out he;rw[h];exact⟨rfl,rfl,fun h0=>absurd h0 he⟩
   have g1:=ig ((p:Int)<p);clear HT HE;go_wp2_with fail;go_ret;refine⟨_,j,rfl,pz,pU,by rw[<-HF.out.1,<-HF.out.2.1];exact HC.out,ac.out.trans (Jm HK.out fun x hx=>⟨mo,hx.2⟩),HF.out.2.2⟩
def Iz(m:Nat)(bs:List Nat)(at_:Nat):Nat×Nat×Nat×Int:=
 (GM bs at_ 0,Bd m bs (takeA bs at_ 0 1) (Ca bs at_ 0 1),AJ m bs (takeA bs at_ 0 1) (Ca bs at_ 0 1),AM m bs (takeA bs at_ 0 1) (Ca bs at_ 0 1))
def Lh(acc:List Nat)(o:Nat×Nat×Nat×Int):Int:=if o.2.2.2≠0 then o.2.2.2 else if o.2.1=0∨acc.getLast?=some o.1 then 2 else 0
def Fz:Nat->Nat->List Nat->Nat->List Nat->List Nat×Nat×Int
 |0,_,_,at_,acc=>(acc,at_,0)
 |f+1,n,bs,at_,acc=>if n<=acc.length then(acc,at_,0)else if Lh acc (Iz (n-acc.length) bs at_)≠0 then([],(Iz (n-acc.length) bs at_).2.2.1,Lh acc (Iz (n-acc.length) bs at_))else
  Fz f n bs (Iz (n-acc.length) bs at_).2.2.1 (acc++List.replicate (Iz (n-acc.length) bs at_).2.1 (Iz (n-acc.length) bs at_).1)
theorem jP{bs:List Nat}(h8:∀x∈bs,x<=255)(at_:Nat)(er:Int)(h:AM m bs at_ er≠0):Bd m bs at_ er=0:=by
 unfold AM at h;unfold Bd;by_cases he:er=0
 ·rw[Aa (by simp[he])]at h;rw[Aa (by simp[he])];exact((Hk m (bs.drop at_) fun x hx=>h8 x (Ck hx)).2.2.2.1 h).1
 ·rw[Ab he]
theorem Rt{f:Nat}{bs:List Nat}{at_:Nat}{i:List Nat}(h:n<=i.length):Fz f n bs at_ i=(i,at_,0):=by
 cases f with
 |zero=>rfl
 |succ f=>exact Ab h
def Gy(w:World)(g:Nat):Int:=intOf ((w.cell? ⟨g,2,none⟩).getD (.int .i64 0))
theorem iX:(prog.info? 5).map (fun i=>(i.zero,i.size,i.bytes))=some (some (.int .u8 0),1,1):=my
def T8(w:World)(n g base:Nat)(bs:List Nat)(A:Option Addr)(c:Nat)(T:List Nat×Nat×Int)(e:Ending)(w':World):Prop:=
 ∃v acc,e= .returned v/\acc.length<=n/\w'.ownsRow w 5 1 v acc.length (cZ .u8 acc)/\Cur w' g base bs A c T.2.1 T.2.2/\Kept (BE g w) w w'/\(T.2.2=0->acc=T.1)
theorem lQ(w:World)(g base:Nat)(bs:List Nat)(A:Option Addr)(c at_ n:Nat)(ax:Int)(b4:bs.length<=100000)(h8:∀x∈bs,x<=255)(hn:n<=20000)(h:Cur w g base bs A c at_ ax):
 Calls prog 194 #[.agg #[.pointer (some ⟨g,0,none⟩)], .int .i64 (n:Nat)] w (T8 w n g base bs A c (if ax≠0 then([],at_,ax)else Fz n n bs at_ [])):=by
 obtain⟨j0,bi,bg,ba,bj⟩:=info_parts iX;obtain⟨T,hT⟩:=ii (if ax≠0 then([],at_,ax)else Fz n n bs at_ [])
 rw[<-hT];have bm:Hid ((ax=0->∃f,n<=f+0/\Fz f n bs at_ []=T)/\(ax≠0->T=([],at_,ax))):=⟨fun h=>⟨n,Ak _,by rw[hT,Aa rn]⟩,fun h=>by rw[hT,Ab h]⟩;have H8:=hid h8;have b7:=hid b4;have cr:=h.blk.lt;have H:=hid h;have bb:Hid (∀y,(Value.slice A bs.length c).ownBlock=some y->y<w.heap.size):=fun y hy=>(Aj h.own y hy).2;unfold T8;clear h h8 hT b4;go_enter func194,ntmps194;go_wp2_with fail;have b3:=H.out.step (w':=w.alloc (.cells #[.pointer (some ⟨g,0,none⟩)] 249)) (aZ (Ae _ _));have bk:Blk (w.alloc (.cells #[.pointer (some ⟨g,0,none⟩)] 249)) w 249 #[.pointer (some ⟨g,0,none⟩)]:=Blk.made _ _ _;have bt:Kept (BE g w) w (w.alloc (.cells #[.pointer (some ⟨g,0,none⟩)] 249)):=Kept.of_below (B:=w.heap.size) (aZ (Ae _ _)) (fun x hx=>hx.1);generalize w.alloc (.cells #[.pointer (some ⟨g,0,none⟩)] 249)=w1 at *;have z1:=bt.size;have cd:=bk.lt;have ce:=hid b3;have ca:=hid bk;have bN:=hid bt;have bl:w.heap.size≠g:=nj
 clear b3 bk bt H;go_loopw [5] (fun v wr=>∃ (a1:Nat) (er:Int) (p:Nat) (j:List Nat),p<=n/\Hid (j.length=p)/\Hid (Cur wr g base bs A c a1 er)/\Hid (wr.ownsRow w1 5 1 v p (cZ .u8 j))/\Hid (Kept (fun x=>x<w1.heap.size/\x≠g) w1 wr)/\Hid (er=0->∃f,n<=f+p/\Fz f n bs a1 j=T)/\Hid (er≠0->T=([],a1,er))) (fun v wr=>(n-lenS v)+if Gy wr g=0 then 1 else 0)
 case atStart=>exact⟨at_,ax,0,[],nj,rfl,ce.out,AE _ _ _ _,Kept.refl _ _,bm.out.1,bm.out.2⟩
 case round=>
  obtain⟨a1,er,p,j,hp,HP,HC,HO,HK,HT,HE⟩:=hrel;have zk:=HK.out.size;obtain⟨va,vc,rfl⟩:=bZ HO.out;have xb:Blk wr w 249 #[.pointer (some ⟨g,0,none⟩)]:=(HK.out.block _ ⟨cd,bl⟩).trans ca.out;have x0:=xb.ia 0;have XB:=hid xb;have bh:Hid (Gy wr g=er):=by show _=_;unfold Gy;rw[HC.out.cells.2.2];rfl
  clear xb bm;by_cases cw:p<n
  ·have g1:=ic ((p:Int)<n);have cj:=ic (p<n);have DE:=hid (Dt wr g base bs A c a1 er HC.out);by_cases he:er=0
   ·subst he;obtain⟨f,hf,a6⟩:=HT.out rfl;obtain⟨f,rfl⟩:∃f',f=f'+1:=⟨f-1,nj⟩;rw[Fz,Aa (by rw[HP.out];omega),HP.out]at a6;obtain⟨m,hm⟩:=ii (n-p);have sm:IntKind.i64.wrap ((n:Int)-(p:Int))=(m:Int):=pi;rw[<-hm]at a6;have cu:=hid hm;have co:p+m<=n/\m<=20000:=nj;clear hm;have D1:=hid (fun wx hx=>Vc wx g base bs A c a1 0 b7.out hx);have cl:Bd m bs (takeA bs a1 0 1) (Ca bs a1 0 1)<=m:=Gp H8.out _ _;have cm:Hid (AM m bs (takeA bs a1 0 1) (Ca bs a1 0 1)≠0->Bd m bs (takeA bs a1 0 1) (Ca bs a1 0 1)=0):=jP H8.out _ _;unfold Lh Iz at a6;simp only at a6;have D2:=hid (fun wx hx=>Jd wx g base bs A c (takeA bs a1 0 1) (Ca bs a1 0 1) m b7.out H8.out nj hx);generalize GM bs a1 0=x at *;generalize takeA bs a1 0 1=b1 at *;generalize Ca bs a1 0 1=d1 at *;generalize Bd m bs b1 d1=k at *;generalize AJ m bs b1 d1=a2 at *;generalize AM m bs b1 d1=e2 at *;have a3:k<=100000:=nj;have DR:=hid (fun wx gx cx y kk hkk hb=>mL wx gx cx y kk hkk hb);have au:=hid a6;have HF:=hid hf;clear a6 HT HE hf;go_wp2_with fail;refine DE.out.mono ?_;rintro e w2 ⟨rfl,rfl⟩;go_wp2_with fail;refine(D1.out _ HC.out).mono ?_;rintro e w3 ⟨rfl,b6,bf⟩;have z3:=bf.size;have bS:=hid b6;have b0:Hid (w3.ownsRow w1 5 1 (.slice va p vc) p (cZ .u8 j)):=Mi HO.out nj bf;have b8:Hid (Kept (fun x=>x<w1.heap.size/\x≠g) w1 w3):=PV HK.out zk bf;have bp:=hid (Md XB.out bl bf);have x3:=bp.out.ia 0;clear b6 bf x0 HC HO HK DE D1 XB;go_wp2_with fail;refine(D2.out _ bS.out).mono ?_;rintro e w4 ⟨rfl,b5,bd⟩;have z4:=bd.size;have ak:=hid b5;have ag:Hid (w4.ownsRow w1 5 1 (.slice va p vc) p (cZ .u8 j)):=Mi b0.out nj bd;have al:Hid (Kept (fun x=>x<w1.heap.size/\x≠g) w1 w4):=PV b8.out nj bd;have bn:=hid (Md bp.out bl bd);have x4:=bn.out.ia 0;have cc:=hid (Dt w4 g base bs A c a2 e2 ak.out);clear b5 bd x3 bS b0 b8 D2 bp;go_wp2_with fail;refine cc.out.mono ?_;rintro e w5 ⟨rfl,rfl⟩;by_cases a5:e2=0
    ·subst a5;have Z:=au.out;rw[Aa (show ¬((0:Int)≠0) from fun h=>h rfl)]at Z;by_cases az:k=0
     ·have gk:((k:Int)==0)=true:=(by rw[az];rfl);obtain⟨i,J⟩:=ii (Gk 0 2);have aa:i=2:=J.trans (Ab rfl);have ac:Hid ((i=0->∃f',n<=f'+(p+k)/\Fz f' n bs a2 (j++List.replicate k x)=T)/\(i≠0->T=([],a2,i))):=⟨fun h=>absurd (aa.symm.trans h) ip,fun _=>by rw[Ab (Or.inl az),Ab ip]at Z;rw[aa];exact Z.symm⟩;have am:Hid (n-(p+k)+(if i=0 then 1 else 0)<n-p+1):=(by show _<_;rw[Aa (by rw[aa];decide)];omega);have DF:=hid (GZ w5 g base bs A c a2 0 2 ak.out);rw[<-J]at DF;clear Z aa J au az;go_wp2_with fail;refine DF.out.mono ?_;rintro e w6 ⟨rfl,be,a4⟩;have U:Hid (w6.ownsRow w1 5 1 _ p (cZ .u8 j)):=eZ ag.out (fun z hz=>a4.block z (by have:=(Aj ag.out z hz).1;omega));have L:Hid (Kept (fun x=>x<w1.heap.size/\x≠g) w1 w6):=al.out.trans (Jm a4 fun z hz=>hz.2);have ae:=hid be;clear ag al ak a4 be DF bn x4 z4;obtain⟨w5,rfl⟩:=ii w6;have z5:=L.out.size;go_wp2_with fail;have bq:Blk (w5.alloc (.cells #[.int .u8 (x:Nat)] 5)) w5 5 #[.int .u8 (x:Nat)]:=Blk.made _ _ _;refine(DR.out _ _ _ x k a3 bq).mono ?_;rintro e w6 ⟨v6,rfl,M,G⟩;obtain⟨A6,c6,rfl⟩:=bZ M;have z6:=G.size;simp at z6;have ay:Hid (Src w6 A6 k c6 1 (cZ .u8 (List.replicate k x))):=LN M;have af:Hid (w6.ownsRow w1 5 1 _ p (cZ .u8 j)):=eZ (U.out.alloc _) (fun y hy=>G.block y ln);have ah:Cur w6 g base bs A c a2 i:=ae.out.step ((aZ (Ae _ _)).trans (G.mono qT));have ai:Hid (Kept (fun x=>x<w1.heap.size/\x≠g) w1 w6):=L.out.trans (Kept.of_below ((aZ (Ae _ _)).trans (G.mono qT)) (fun y hy=>by have:=hy.1;omega));have aw:=hid ah;clear M G bq ah ae U L DR;go_wp2_with(at_builtin;refine iZ rfl (.tmp 54) (.tmp 58) 28 rfl w1 5 j0 _ 1 1 underlying28 bi bg ba bj rfl ip _ _ _ nm af.out _ _ _ _ nm ay.out (Ct _ _) rE nj nj ?_;intro v7 w7 E N ab);obtain⟨A7,c7,rfl⟩:=bZ E;have Q:=fun(y:Nat) hy=>(Aj af.out y hy).1;have z7:=ai.out.size;have Y:Cur w7 g base bs A c a2 i:=Kj aw.out N w1 nj (fun y hy=>by have:=bb.out y hy;omega) Q;have ar:Hid (Kept (fun x=>x<w1.heap.size/\x≠g) w1 w7):=ai.out.grown N (fun y hy=>by have:=hy.1;omega) (fun y hy hh=>by have:=Q y hy;have:=hh.1;omega);have av:Hid (w7.ownsRow w1 5 1 (.slice A7 (p+k) c7) (p+k) (cZ .u8 (j++List.replicate k x))):=qF;have an:=hid Y;have aq:Hid (Gy w7 g=i):=qP;clear E N ab Q Y;go_roundw
      case measure=>exact jp
      case rel=>exact ja
     ·have gk:((k:Int)==0)=false:=pm;have ci:(k==0)=false:=pm;by_cases bC:p=0
      ·have gp:=ig ((0:Int)<p);have b9:=ig (0<p);have a9:¬(k=0∨j.getLast?=some x):=fun h=>h.elim az (fun h=>by rw[GC (HP.out.trans bC)]at h;cases h);obtain⟨i,J⟩:∃i:Int,i=0:=⟨_,rfl⟩;have ac:Hid ((i=0->∃f',n<=f'+(p+k)/\Fz f' n bs a2 (j++List.replicate k x)=T)/\(i≠0->T=([],a2,i))):=⟨fun _=>⟨f,lx,by rw[Aa a9,Aa (show ¬((0:Int)≠0) from fun h=>h rfl)]at Z;exact Z⟩,fun h=>absurd J h⟩;have am:Hid (n-(p+k)+(if i=0 then 1 else 0)<n-p+1):=(by show _<_;rw[Ab J];omega);have aj:Hid (Cur w5 g base bs A c a2 i):=(by rw[J];exact ak.out);clear Z J au az a9 bC;have ae:=aj;have U:=ag;have L:=al;clear ak ag al aj;have z5:=L.out.size;go_wp2_with fail;have bq:Blk (w5.alloc (.cells #[.int .u8 (x:Nat)] 5)) w5 5 #[.int .u8 (x:Nat)]:=Blk.made _ _ _;refine(DR.out _ _ _ x k a3 bq).mono ?_;rintro e w6 ⟨v6,rfl,M,G⟩;obtain⟨A6,c6,rfl⟩:=bZ M;have z6:=G.size;simp at z6;have ay:Hid (Src w6 A6 k c6 1 (cZ .u8 (List.replicate k x))):=LN M;have af:Hid (w6.ownsRow w1 5 1 _ p (cZ .u8 j)):=eZ (U.out.alloc _) (fun y hy=>G.block y ln);have ah:Cur w6 g base bs A c a2 i:=ae.out.step ((aZ (Ae _ _)).trans (G.mono qT));have ai:Hid (Kept (fun x=>x<w1.heap.size/\x≠g) w1 w6):=L.out.trans (Kept.of_below ((aZ (Ae _ _)).trans (G.mono qT)) (fun y hy=>by have:=hy.1;omega));have aw:=hid ah;clear M G bq ah ae U L DR;go_wp2_with(at_builtin;refine iZ rfl (.tmp 54) (.tmp 58) 28 rfl w1 5 j0 _ 1 1 underlying28 bi bg ba bj rfl ip _ _ _ nm af.out _ _ _ _ nm ay.out (Ct _ _) rE nj nj ?_;intro v7 w7 E N ab);obtain⟨A7,c7,rfl⟩:=bZ E;have Q:=fun(y:Nat) hy=>(Aj af.out y hy).1;have z7:=ai.out.size;have Y:Cur w7 g base bs A c a2 i:=Kj aw.out N w1 nj (fun y hy=>by have:=bb.out y hy;omega) Q;have ar:Hid (Kept (fun x=>x<w1.heap.size/\x≠g) w1 w7):=ai.out.grown N (fun y hy=>by have:=hy.1;omega) (fun y hy hh=>by have:=Q y hy;have:=hh.1;omega);have av:Hid (w7.ownsRow w1 5 1 (.slice A7 (p+k) c7) (p+k) (cZ .u8 (j++List.replicate k x))):=qF;have an:=hid Y;have aq:Hid (Gy w7 g=i):=qP;clear E N ab Q Y;go_roundw
       case measure=>exact jp
       case rel=>exact ja
      ·obtain⟨gq,cq,cg,cv,_⟩:=ag.out.form nj;injection cg with e1 e2 e3;subst e1 e3;obtain⟨y,hy⟩:∃y,j[p-1]? =some y:=⟨_,Aw mf⟩;have a0:j.getLast?=some y:=by rw[List.getLast?_eq_getElem?,HP.out];exact hy
       have cy:w5.cell? ⟨gq,p-1,none⟩=some (.int .u8 (y:Nat)):=(by rw[ag.out.cellAt (p-1) nj];unfold cZ;rw[BI,hy];rfl);obtain⟨p1,bu⟩:=ii (p-1);rw[<-bu]at cy;have sp:IntKind.i64.wrap ((p:Int)-1)=(p1:Int):=pi;have gp:=ic ((0:Int)<p);have b9:=ic (0<p);have ct:(0:Int)<=(p1:Int):=nj;have cp:(p1:Int)<(p:Int):=nj;clear hy bu;by_cases bc:y=x
       ·have gx:((y:Int)==(x:Int))=true:=(by rw[bc];simp);rw[bc]at a0;clear bc;obtain⟨i,J⟩:=ii (Gk 0 2);have aa:i=2:=J.trans (Ab rfl);have ac:Hid ((i=0->∃f',n<=f'+(p+k)/\Fz f' n bs a2 (j++List.replicate k x)=T)/\(i≠0->T=([],a2,i))):=⟨fun h=>absurd (aa.symm.trans h) ip,fun _=>by rw[Ab (Or.inr a0),Ab ip]at Z;rw[aa];exact Z.symm⟩;have am:Hid (n-(p+k)+(if i=0 then 1 else 0)<n-p+1):=(by show _<_;rw[Aa (by rw[aa];decide)];omega);have DF:=hid (GZ w5 g base bs A c a2 0 2 ak.out);rw[<-J]at DF;clear Z aa J au a0 az;go_wp2_with fail;refine DF.out.mono ?_;rintro e w6 ⟨rfl,be,a4⟩;clear cy;have U:Hid (w6.ownsRow w1 5 1 _ p (cZ .u8 j)):=eZ ag.out (fun z hz=>a4.block z (by have:=(Aj ag.out z hz).1;omega));have L:Hid (Kept (fun x=>x<w1.heap.size/\x≠g) w1 w6):=al.out.trans (Jm a4 fun z hz=>hz.2);have ae:=hid be;clear ag al ak a4 be DF bn x4 z4;obtain⟨w5,rfl⟩:=ii w6;have z5:=L.out.size;go_wp2_with fail;have bq:Blk (w5.alloc (.cells #[.int .u8 (x:Nat)] 5)) w5 5 #[.int .u8 (x:Nat)]:=Blk.made _ _ _;refine(DR.out _ _ _ x k a3 bq).mono ?_;rintro e w6 ⟨v6,rfl,M,G⟩;obtain⟨A6,c6,rfl⟩:=bZ M;have z6:=G.size;simp at z6;have ay:Hid (Src w6 A6 k c6 1 (cZ .u8 (List.replicate k x))):=LN M;have af:Hid (w6.ownsRow w1 5 1 _ p (cZ .u8 j)):=eZ (U.out.alloc _) (fun y hy=>G.block y ln);have ah:Cur w6 g base bs A c a2 i:=ae.out.step ((aZ (Ae _ _)).trans (G.mono qT));have ai:Hid (Kept (fun x=>x<w1.heap.size/\x≠g) w1 w6):=L.out.trans (Kept.of_below ((aZ (Ae _ _)).trans (G.mono qT)) (fun y hy=>by have:=hy.1;omega));have aw:=hid ah;clear M G bq ah ae U L DR;go_wp2_with(at_builtin;refine iZ rfl (.tmp 54) (.tmp 58) 28 rfl w1 5 j0 _ 1 1 underlying28 bi bg ba bj rfl ip _ _ _ nm af.out _ _ _ _ nm ay.out (Ct _ _) rE nj nj ?_;intro v7 w7 E N ab);obtain⟨A7,c7,rfl⟩:=bZ E;have Q:=fun(y:Nat) hy=>(Aj af.out y hy).1;have z7:=ai.out.size;have Y:Cur w7 g base bs A c a2 i:=Kj aw.out N w1 nj (fun y hy=>by have:=bb.out y hy;omega) Q;have ar:Hid (Kept (fun x=>x<w1.heap.size/\x≠g) w1 w7):=ai.out.grown N (fun y hy=>by have:=hy.1;omega) (fun y hy hh=>by have:=Q y hy;have:=hh.1;omega);have av:Hid (w7.ownsRow w1 5 1 (.slice A7 (p+k) c7) (p+k) (cZ .u8 (j++List.replicate k x))):=qF;have an:=hid Y;have aq:Hid (Gy w7 g=i):=qP;clear E N ab Q Y;go_roundw
        case measure=>exact jp
        case rel=>exact ja
       ·have gx:((y:Int)==(x:Int))=false:=pm;obtain⟨i,J⟩:∃i:Int,i=0:=⟨_,rfl⟩;have a9:¬(k=0∨j.getLast?=some x):=fun h=>h.elim az (fun h=>by rw[a0]at h;injection h with h;exact bc h);have ac:Hid ((i=0->∃f',n<=f'+(p+k)/\Fz f' n bs a2 (j++List.replicate k x)=T)/\(i≠0->T=([],a2,i))):=⟨fun _=>⟨f,lx,by rw[Aa a9,Aa qT]at Z;exact Z⟩,fun h=>absurd J h⟩;have am:Hid (n-(p+k)+(if i=0 then 1 else 0)<n-p+1):=(by show _<_;rw[Ab J];omega);have aj:Hid (Cur w5 g base bs A c a2 i):=(by rw[J];exact ak.out);clear Z J au a0 a9 bc az;have ae:=aj;have U:=ag;have L:=al;clear ak ag al aj;have z5:=L.out.size;go_wp2_with fail;have bq:Blk (w5.alloc (.cells #[.int .u8 (x:Nat)] 5)) w5 5 #[.int .u8 (x:Nat)]:=Blk.made _ _ _;refine(DR.out _ _ _ x k a3 bq).mono ?_;rintro e w6 ⟨v6,rfl,M,G⟩;obtain⟨A6,c6,rfl⟩:=bZ M;have z6:=G.size;simp at z6;have ay:Hid (Src w6 A6 k c6 1 (cZ .u8 (List.replicate k x))):=LN M;have af:Hid (w6.ownsRow w1 5 1 _ p (cZ .u8 j)):=eZ (U.out.alloc _) (fun y hy=>G.block y ln);have ah:Cur w6 g base bs A c a2 i:=ae.out.step ((aZ (Ae _ _)).trans (G.mono qT));have ai:Hid (Kept (fun x=>x<w1.heap.size/\x≠g) w1 w6):=L.out.trans (Kept.of_below ((aZ (Ae _ _)).trans (G.mono qT)) (fun y hy=>by have:=hy.1;omega));have aw:=hid ah;clear M G bq ah ae U L DR;go_wp2_with(at_builtin;refine iZ rfl (.tmp 54) (.tmp 58) 28 rfl w1 5 j0 _ 1 1 underlying28 bi bg ba bj rfl ip _ _ _ nm af.out _ _ _ _ nm ay.out (Ct _ _) rE nj nj ?_;intro v7 w7 E N ab);obtain⟨A7,c7,rfl⟩:=bZ E;have Q:=fun(y:Nat) hy=>(Aj af.out y hy).1;have z7:=ai.out.size;have Y:Cur w7 g base bs A c a2 i:=Kj aw.out N w1 nj (fun y hy=>by have:=bb.out y hy;omega) Q;have ar:Hid (Kept (fun x=>x<w1.heap.size/\x≠g) w1 w7):=ai.out.grown N (fun y hy=>by have:=hy.1;omega) (fun y hy hh=>by have:=Q y hy;have:=hh.1;omega);have av:Hid (w7.ownsRow w1 5 1 (.slice A7 (p+k) c7) (p+k) (cZ .u8 (j++List.replicate k x))):=qF;have an:=hid Y;have aq:Hid (Gy w7 g=i):=qP;clear E N ab Q Y;go_roundw
        case measure=>exact jp
        case rel=>exact ja
    ·have gE:(e2==0)=false:=(by simpa using a5);have Z:=au.out;rw[Ab a5,Ab a5]at Z;have ac:Hid ((e2=0->∃f',n<=f'+(p+k)/\Fz f' n bs a2 (j++List.replicate k x)=T)/\(e2≠0->T=([],a2,e2))):=⟨fun h=>absurd h a5,fun _=>Z.symm⟩;have am:Hid (n-(p+k)+(if e2=0 then 1 else 0)<n-p+1):=(by show _<_;rw[Aa a5];omega);have aj:Hid (Cur w5 g base bs A c a2 e2):=ak.out;clear Z au a5;obtain⟨i,rfl⟩:=ii e2;have ae:=aj;have U:=ag;have L:=al;clear ak ag al aj;have z5:=L.out.size;go_wp2_with fail;have bq:Blk (w5.alloc (.cells #[.int .u8 (x:Nat)] 5)) w5 5 #[.int .u8 (x:Nat)]:=Blk.made _ _ _;refine(DR.out _ _ _ x k a3 bq).mono ?_;rintro e w6 ⟨v6,rfl,M,G⟩;obtain⟨A6,c6,rfl⟩:=bZ M;have z6:=G.size;simp at z6;have ay:Hid (Src w6 A6 k c6 1 (cZ .u8 (List.replicate k x))):=LN M;have af:Hid (w6.ownsRow w1 5 1 _ p (cZ .u8 j)):=eZ (U.out.alloc _) (fun y hy=>G.block y ln);have ah:Cur w6 g base bs A c a2 i:=ae.out.step ((aZ (Ae _ _)).trans (G.mono qT));have ai:Hid (Kept (fun x=>x<w1.heap.size/\x≠g) w1 w6):=L.out.trans (Kept.of_below ((aZ (Ae _ _)).trans (G.mono qT)) (fun y hy=>by have:=hy.1;omega));have aw:=hid ah;clear M G bq ah ae U L DR;go_wp2_with(at_builtin;refine iZ rfl (.tmp 54) (.tmp 58) 28 rfl w1 5 j0 _ 1 1 underlying28 bi bg ba bj rfl ip _ _ _ nm af.out _ _ _ _ nm ay.out (Ct _ _) rE nj nj ?_;intro v7 w7 E N ab);obtain⟨A7,c7,rfl⟩:=bZ E;have Q:=fun(y:Nat) hy=>(Aj af.out y hy).1;have z7:=ai.out.size;have Y:Cur w7 g base bs A c a2 i:=Kj aw.out N w1 nj (fun y hy=>by have:=bb.out y hy;omega) Q;have ar:Hid (Kept (fun x=>x<w1.heap.size/\x≠g) w1 w7):=ai.out.grown N (fun y hy=>by have:=hy.1;omega) (fun y hy hh=>by have:=Q y hy;have:=hh.1;omega);have av:Hid (w7.ownsRow w1 5 1 (.slice A7 (p+k) c7) (p+k) (cZ .u8 (j++List.replicate k x))):=qF;have an:=hid Y;have aq:Hid (Gy w7 g=i):=qP;clear E N ab Q Y;go_roundw
     case measure=>exact jp
     case rel=>exact ja
   ·have g2:(er==0)=false:=rA;have au:=hid (HE.out he);have cf:=hid he;clear he HT HE;go_wp2_with fail;refine DE.out.mono ?_;rintro e w2 ⟨rfl,rfl⟩;go_wp2_with fail;go_ret;rw[au.out];refine⟨_,j,rfl,pz,pU,HC.out,bN.out.trans (Jm HK.out fun x hx=>⟨mo,hx.2⟩),fun h=>absurd h cf.out⟩
  ·obtain rfl:p=n:=by omega
   have HF:Hid (a1=T.2.1/\er=T.2.2/\(T.2.2=0->j=T.1)):=by
    by_cases he:er=0
    ·subst he;obtain⟨f,_,h⟩:=HT.out rfl;rw[Rt (by rw[HP.out];exact Ak _)]at h;rw[<-h];exact⟨rfl,rfl,fun _=>rfl⟩
    ·have h:=HE.out he;rw[h];exact⟨rfl,rfl,fun h0=>absurd h0 he⟩
   have g1:=ig ((p:Int)<p);clear HT HE;go_wp2_with fail;go_ret;refine⟨_,j,rfl,pz,pU,by rw[<-HF.out.1,<-HF.out.2.1];exact HC.out,bN.out.trans (Jm HK.out fun x hx=>⟨mo,hx.2⟩),HF.out.2.2⟩
end Recs
namespace Recs
open Go.RowKit Mem Own Canon NumPut Nums
def JX(n:Nat)(bs:List Nat)(T:List Nat×Nat×Int):List Nat×Nat×Int:=if T.2.2≠0 then([],T.2.1,T.2.2)else Fz n n bs T.2.1 []
def MO(T L:List Nat×Nat×Int):List Nat×List Nat×Nat×Int:=if L.2.2≠0 then([],[],0,L.2.2)else(T.1,L.1,L.2.1,0)
def Ek(n:Nat)(bs:List Nat):List Nat×List Nat×Nat×Int:=MO (FX n bs 0 0 []) (JX n bs (FX n bs 0 0 []))
theorem iB{bs:List Nat}{T:List Nat×Nat×Int}(h:(JX n bs T).2.2=0):T.2.2=0:=by
 by_cases e:T.2.2=0
 ·exact e
 ·unfold JX at h;rw[Ab e]at h;exact h
theorem Uk{fn:Func}{t u v x:Tmp}(h:fn.results=#[.tmp t, .tmp u, .tmp v, .tmp x])(i:Array Value)(P:Program)(w:World):
 (results fn i).run P w= .ok (.tuple #[i.getD t undef,i.getD u undef,i.getD v undef,i.getD x undef]) w:=by
 simp[results,h]
def Ps(R:List Nat×List Nat×Nat×Int)(w:World)(e:Ending)(w':World):Prop:=
 ∃vt vl,e= .returned (.tuple #[vt,vl, .int .i64 (R.2.2.1:Nat),R.2.2.2])/\w'.ownsRow w 41 1 vt R.1.length (cZ .u64 R.1)/\w'.ownsRow w 5 1 vl R.2.1.length (cZ .u8 R.2.1)/\Below w w w'
theorem XH(w:World)(A:Option Addr)(n c:Nat)(bs:List Nat)(k:Nat)(hn:bs.length=n)(am:n<=100000)(h8:∀x∈bs,x<=255)(J:A=none->n=0/\c=0)(ha:Row w w A n 1 (jZ .u8 bs))(hk:k<=20000):
 Calls prog 116 #[.int .i64 (k:Nat), .slice A n c] w (Ps (Ek k bs) w):=by
 have D0:=hid (new_any w A n c bs hn am J ha);have M:bs.length<=100000:=nj
 have D1:=hid (fun wx g base B d h=>o6 wx g base bs B d 0 k M h8 hk h);have D2:=hid (fun wx g base B d at_ er h=>lQ wx g base bs B d at_ k er M h8 hk h);have a4:=ig ((k:Int)<0)
 have a3:=ig ((20000:Int)<k)
 have ay:=ig (20000<k)
 unfold Ek;obtain⟨T,hT⟩:=ii (FX k bs 0 0 []);rw[<-hT]at D1 ⊢;have U:=hid (fun h=>iB (n:=k) (bs:=bs) (T:=T) h);have HL:Hid (∀at_ er,at_=T.2.1->er=T.2.2->(if er≠0 then([],at_,er)else Fz k k bs at_ [])=JX k bs T):=fun at_ er h1 h2=>by subst h1 h2;rfl
 unfold Ps;clear hn J ha h8 am hT;generalize JX k bs T=L at *;obtain⟨tl,ta,te⟩:=T;obtain⟨ll,la,le⟩:=L;simp only at *;go_enter func116,ntmps116;go_wp2_with fail;refine D0.out.mono ?_;rintro e w1 ⟨g,B,d,rfl,y,ac⟩;have z1:=ac.size;have a5:=y.blk.lt;have a1:=y.lo;have aq:=hid y;have av:=hid ac;clear y ac D0;go_wp2_with fail;have Y:=aq.out.step (w':=w1.alloc (.cells #[.pointer (some ⟨g,0,none⟩)] 249)) rF;have ag:Blk (w1.alloc (.cells #[.pointer (some ⟨g,0,none⟩)] 249)) w1 249 #[.pointer (some ⟨g,0,none⟩)]:=Blk.made _ _ _;have ae:Below w w (w1.alloc (.cells #[.pointer (some ⟨g,0,none⟩)] 249)):=mZ z1 av.out;generalize w1.alloc (.cells #[.pointer (some ⟨g,0,none⟩)] 249)=w2 at *;have z2:=ae.size;have ai:w1.heap.size≠g:=nj
 have a0:=Y.blk.lt;have aj:=hid ag;have ah:=hid ae;have DT:=hid (D1.out w2 g w B d Y);clear Y ag ae aq av D1;refine DT.out.mono ?_;rintro e w3 ⟨vt,i,rfl,a9,N,ar,z,ak⟩;obtain⟨At,ct,rfl⟩:=bZ N;have aa:=hid (Md aj.out ai z);have x3:=aa.out.ia 0;have G:=hid N;have z3:=z.size;have an:Hid (Below w w w3):=ah.out.trans (z.below fun b h=>⟨nj,nj⟩);have Q:=hid ak;have DL:=hid (D2.out w3 g w B d ta te ar);rw[HL.out ta te rfl rfl]at DL;clear N ar z ak DT aj ah D2 HL;go_wp2_with fail;refine DL.out.mono ?_;rintro e w4 ⟨vl,aw,rfl,a6,af,Z,j,E⟩;obtain⟨Al,cl,rfl⟩:=bZ af;have az:=hid (Md aa.out ai j);have x4:=az.out.ia 0;have z4:=j.size;have au:Hid (w4.ownsRow w 41 1 (.slice At i.length ct) i.length (cZ .u64 i)):=lZ (Mi G.out a0 j) z2;have ax:=hid (lZ af (by omega:w.heap.size<=w3.heap.size));have al:Hid (Below w w w4):=an.out.trans (j.below fun b h=>⟨nj,nj⟩);have ab:=hid E;have DE:=hid (Dt w4 g w bs B d la le Z);have DA:=hid (JZ w4 g w bs B d la le Z);clear af Z j E DL aa G an x3;go_wp2_with fail;refine DE.out.mono ?_;rintro e w5 ⟨rfl,rfl⟩;by_cases he:le=0
 ·subst he;have et:=Q.out (U.out rfl);have el:=ab.out rfl;have hR:MO (tl,ta,te) (ll,la,0)=(i,aw,la,0):=by rw[et,el];exact Aa (by simp)
  have HR:=hid hR;clear et el hR Q ab U;go_wp2_with fail;refine DA.out.mono ?_;rintro e w6 ⟨rfl,rfl⟩;go_wp2_with fail;rw[HR.out];refine CF (Uk rfl _ _ _) rfl ?_;exact⟨_,_,rfl,au.out,ax.out,al.out⟩
 ·have g1:(le != 0)=true:=by simpa using he
  have HR:Hid (MO (tl,ta,te) (ll,la,le)=([],[],0,le)):=Ab he;clear he Q ab U;go_wp2_with fail;rw[HR.out];refine CF (Uk rfl _ _ _) rfl ?_;exact⟨_,_,rfl,AE _ _ _ _,AE _ _ _ _,al.out⟩
end Recs
namespace Body
open Go.RowKit Mem Own Canon Nums Crc Recs
def Iw(k:Nat)(ls:List Nat):Int:=if CM ls≠0 then CM ls else if(Ek k (Bk ls)).2.2.2≠0 then(Ek k (Bk ls)).2.2.2 else if(Ek k (Bk ls)).2.2.1<(Bk ls).length then 2 else 0
theorem Qs(h8:∀x∈ls,x<=255):∀x∈Bk ls,x<=255:=fun x hx=>by
 unfold Bk at hx;split at hx
 ·exact h8 x (Dc hx)
 ·simp at hx
theorem Ql(ls:List Nat):(Bk ls).length<=ls.length:=by
 unfold Bk;split
 ·rw[Ba];omega
 ·simp
def PP(w:World)(gb:Nat)(t:TypeId)(cs:Array Value)(k:Nat)(ls:List Nat)(e:Ending)(w':World):Prop:=
 e= .returned (.int .i64 (Iw k ls))/\Kept (fun x=>x<w.heap.size/\x≠gb) w w'/\(Iw k ls=0->∃vt vl,Blk w' gb t ((cs.setIfInBounds 4 vt).setIfInBounds 5 vl)/\w'.ownsRow w 41 1 vt (Ek k (Bk ls)).1.length (cZ .u64 (Ek k (Bk ls)).1)/\w'.ownsRow w 5 1 vl (Ek k (Bk ls)).2.1.length (cZ .u8 (Ek k (Bk ls)).2.1))
theorem nK(w:World)(gb:Nat)(t:TypeId)(cs:Array Value)(A:Option Addr)(n c k:Nat)(ls:List Nat)(hB:Blk w gb t cs)(ay:6<=cs.size)(ag:41≠t)(aj:5≠t)(hn:ls.length=n)(au:n<=100000)(hc:n<=c)(h8:∀x∈ls,x<=255)(ht:TabAt w)(ha:Row w w A n 1 (jZ .u8 ls))(hk:k<=20000):
 Calls prog 59 #[.pointer (some ⟨gb,4,none⟩), .int .i64 (k:Nat), .slice A n c] w (PP w gb t cs k ls):=by
 have D0:=Mz w A n c ls hn au hc h8 ht ha;unfold Jn at D0;have aw:=hB.lt;have ah:=Qs h8;have ax:=Ql ls;unfold PP;obtain⟨R,hR⟩:=ii (Iw k ls);rw[<-hR];unfold Iw at hR;generalize CM ls=ce at *;generalize Bk ls=co at *;have av:co.length<=100000:=nj
 have DR:=hid (fun wx (Ax:Option Addr) (cx:Nat) (hnx:Ax=none->co.length=0/\cx=0) (hax:Row wx wx Ax co.length 1 (jZ .u8 co))=>XH wx Ax co.length cx co k rfl nj ah hnx hax hk);generalize Ek k co=C at *;obtain⟨ct,cl,ck,Y⟩:=C;unfold Ps at DR;simp only at hR DR;have D0:=hid D0;have HR:=hid hR;have an:=hid hB;clear hn hc h8 ht ha hR ah hB;go_enter func59,ntmps59;go_wp2_with fail;refine D0.out.mono ?_;rintro e w1 ⟨v,rfl,j,J⟩;obtain⟨Ac,cc,rfl⟩:=bZ j;have G:=hid J;have af:Hid (Kept (fun x=>x<w.heap.size/\x≠gb) w w1):=Kept.of_below J (fun x hx=>hx.1);by_cases z:ce=0
 ·subst z;have hr:=HR.out;rw[Aa (show ¬((0:Int)≠0) from fun h=>h rfl)]at hr;have E:=hid hr;have D1:=hid (DR.out w1 Ac cc (Jt j) (own_row j));obtain⟨m,hm⟩:=ii co.length;rw[<-hm]at D1 hr av;have HM:=hid hm;clear j J hr DR D0 HR;rw[<-hm];clear hm;go_wp2_with fail;refine D1.out.mono ?_;rintro e w2 ⟨vt,vl,rfl,Q,ab,ak⟩;obtain⟨At,nt,rfl⟩:=bZ Q;obtain⟨Al,nl,rfl⟩:=bZ ab;have ac:Hid (Below w w w2):=G.out.trans (ak.mono G.out.size);have y:=hid (an.out.step (ac.out));have ae:=hid (lZ Q G.out.size);have am:=hid (lZ ab G.out.size);have U:Hid (Kept (fun x=>x<w.heap.size/\x≠gb) w w2):=Kept.of_below ac.out (fun x hx=>hx.1);clear Q ab ak D1 G af;by_cases i:Y=0
  ·subst i;have hr:=E.out;rw[Aa (show ¬((0:Int)≠0) from fun h=>h rfl),<-HM.out]at hr;by_cases L:ck<m
   ·have g1:=ic ((ck:Int)<m);have aq:=ic (ck<m);have HF:Hid (R=2):=(by rw[Ab L]at hr;exact hr);clear hr E L;go_wp2_with fail;go_ret;rw[HF.out];exact⟨rfl,U.out,fun h=>absurd h ip⟩
   ·have g1:=ig ((ck:Int)<m);have aq:=ig (ck<m);have HF:Hid (R=0):=(by rw[Aa L]at hr;exact hr);have q4:=y.out.cell 4;have q5:=y.out.cell 5;rw[KF nj]at q4 q5;generalize cs[4]=o4 at q4;generalize cs[5]=o5 at q5;have f4:=y.out.frozen 4;have f5:=y.out.frozen 5;have Z:=hid (y.out.set 4 (.slice At ct.length nt));have M:=hid (BR (p:=⟨gb,4,none⟩) ae.out (fZ ae.out y.out ag) (.slice At ct.length nt));have N:=hid (BR (p:=⟨gb,4,none⟩) am.out (fZ am.out y.out aj) (.slice At ct.length nt));have ar:=hid (Z.out.set 5 (.slice Al cl.length nl));have ai:=hid (BR (p:=⟨gb,5,none⟩) M.out (fZ M.out Z.out ag) (.slice Al cl.length nl));have al:=hid (BR (p:=⟨gb,5,none⟩) N.out (fZ N.out Z.out aj) (.slice Al cl.length nl));clear hr E L;go_wp2_with fail;go_ret;rw[HF.out];exact⟨rfl,(U.out.set (fun h=>h.2 rfl) _).set (fun h=>h.2 rfl) _,fun _=>⟨_,_,ar.out,ai.out,al.out⟩⟩
  ·have gE:(Y != 0)=true:=(by simpa using i);have HF:Hid (R=Y):=(by have h:=E.out;rw[Ab i]at h;exact h);have aa:=hid i;clear i E;go_wp2_with fail;go_ret;rw[HF.out];exact⟨rfl,U.out,fun h=>absurd h aa.out⟩
 ·have gE:(ce != 0)=true:=by simpa using z
  have HF:Hid (R=ce):=by have h:=HR.out;rw[Ab z]at h;exact h
  have aa:=hid z;clear z HR j J DR D0;go_wp2_with fail;go_ret;rw[HF.out];exact⟨rfl,af.out,fun h=>absurd h aa.out⟩
end Body
namespace Recs
open Go.RowKit Mem Own Canon NumPut Nums
theorem own_far{e':TypeId}{s' n':Nat}{v v':Value}{z:List Value}(h:w.ownsRow base e s v n xs)(h2:w.ownsRow i e' s' v' n' z)(j:e'≠e)(hg:w.grownBy w' v'.ownBlock):w'.ownsRow base e s v n xs:=
 eZ h fun y hy=>hg.block y (Aj h y hy).2 fun e2=>by
  rcases EY h2 h j with e3|e3
  ·rw[e3]at e2;cases e2
  ·exact e3 (by rw[<-e2,hy])
end Recs
end Go.Proofs.YtfgdoknipbpfhaaGreatDoor
