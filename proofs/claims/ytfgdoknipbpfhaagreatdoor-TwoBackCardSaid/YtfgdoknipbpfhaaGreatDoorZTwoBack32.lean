/- slices.Repeat of one -/
import Derived.Test.YtfgdoknipbpfhaaGreatDoorZTwoBack22
import Derived.Lib.Zigzag
import Derived.Laws.CopyOwn
namespace Go.Proofs.YtfgdoknipbpfhaaGreatDoor
open Go.Proofs.Tryz
open Go.Lib (hid)
set_option maxHeartbeats 4000000
set_option maxRecDepth 100000
variable{base c g m n:Nat}{a b w w':World}{e:TypeId}{A:Option Addr}{ls:List Nat}
open Go.RowKit
def Hs(z:Nat):Nat:=if z % 2=1 then 18446744073709551615-z / 2 else z / 2
theorem Zq{z:Nat}(h:z<18446744073709551616):Hs z<18446744073709551616:=by unfold Hs;split<;>omega
theorem Y6(w:World)(z:Nat)(hz:z<18446744073709551616):
 Calls prog 242 #[.int .u64 z] w fun e w'=>e= .returned (.int .u64 (Hs z:Nat))/\w'=w:=by
 obtain⟨y,hy⟩:=ii (Hs z);rw[<-hy];unfold Hs at hy;have ha:bits .and .u64 (z:Int) 1=((z % 2:Nat):Int):=by have h:=bits_and_u64_nat z 1 hz nj;rw[Nat.and_one_is_mod]at h;exact h
 have e:bits .xor .u64 ((z:Int) / 2) (IntKind.u64.wrap (-(bits .and .u64 (z:Int) 1)))=(y:Int):=by
  rw[ha];by_cases h:z % 2=1
  ·rw[Ab h]at hy;have e2:IntKind.u64.wrap (-((z % 2:Nat):Int))=((2 ^ 64-1:Nat):Int):=(by rw[Bi,h];omega);rw[e2,show(z:Int) / 2=((z / 2:Nat):Int) by omega,bits_xor_u64_nat _ _ nj ip,Nat.xor_comm,Lib.xor_ones64 _ nj];omega
  ·rw[Aa h]at hy;have e2:IntKind.u64.wrap (-((z % 2:Nat):Int))=((0:Nat):Int):=pm;rw[e2,show(z:Int) / 2=((z / 2:Nat):Int) by omega,bits_xor_u64_nat _ _ nj ip,Nat.xor_zero];omega
 have HE:=hid e;clear hy e ha;go_enter func242,ntmps242;go_wp2_with fail;go_ret;exact⟨IR HE.out,rfl⟩
theorem ZB(w:World)(k:Nat)(hk:k<=100000):
 Calls prog 327 #[.int .u64 1, .int .u64 k] w fun e w'=>e= .returned (.tuple #[.int .u64 0, .int .u64 k])/\w'=w:=by
 have a1:bits .and .u64 (1:Int) 4294967295=1:=ip
 have a0:bits .and .u64 (0:Int) 4294967295=0:=ip
 have ak:bits .and .u64 (k:Int) 4294967295=(k:Int):=by have h:=bits_and_u64_nat k 4294967295 nj nj;rw[show 4294967295=2 ^ 32-1 from rfl,Ow,Nat.mod_eq_of_lt nj]at h;exact h
 have sk:(k:Int) / 4294967296=0:=nj
 have wk:IntKind.u64.wrap (k:Int)=(k:Int):=pm
 go_enter func327,ntmps327;go_wp2_with fail;go_ret2;exact⟨rfl,rfl⟩
theorem YI(w:World)(k:Nat)(hk:k<=100000):
 Calls prog 293 #[.int .u64 1, .int .u64 k] w fun e w'=>e= .returned (.tuple #[.int .u64 0, .int .u64 k])/\w'=w:=by
 have D:=hid (ZB w k hk);go_enter func293,ntmps293;go_wp2_with fail;refine D.out.mono ?_;rintro e w1 ⟨rfl,rfl⟩;go_wp2_with fail;go_ret2;exact⟨rfl,rfl⟩
def Fv(x n k:Nat):List Value:=List.replicate n (.int .u8 (x:Nat))++List.replicate (k-n) (.int .u8 0)
theorem U2{x k:Nat}(h:n<=k):(Fv x n k).length=k:=by simp[Fv];omega
theorem Ze(x k:Nat):madeCells #[.int .u8 0] k=(Fv x 0 k).toArray:=by
 apply Array.ext_getElem?
 intro i;by_cases h:i<k
 ·simp[Fv,madeCells,h,Nat.mod_one]
 ·simp[Fv,madeCells,h]
theorem UN(x n m k:Nat):splice (Fv x n k) n (List.replicate m (.int .u8 (x:Nat)))=Fv x (n+m) k:=by
 unfold splice Fv;have e1:(List.replicate n (Value.int .u8 (x:Nat))++List.replicate (k-n) (Value.int .u8 0)).take n=List.replicate n (Value.int .u8 (x:Nat)):=by rw[List.take_append_of_le_length rX];simp
 have e2:(List.replicate n (Value.int .u8 (x:Nat))++List.replicate (k-n) (Value.int .u8 0)).drop (n+m)=List.replicate (k-(n+m)) (Value.int .u8 0):=by rw[List.drop_append];simp;omega
 rw[Dv,e1,e2,<-AE,List.replicate_append_replicate]
theorem YS(x k:Nat):Fv x k k=dZ .u8 (List.replicate k x):=by simp[Fv,dZ]
theorem RC{i:Nat}{a v:Value}(h:(List.replicate m a)[i]? =some v):i<m/\v=a:=by obtain⟨hj,hv⟩:=CQ.1 h;rw[Dv]at hj;rw[List.getElem_replicate]at hv;exact⟨hj,hv.symm⟩
theorem lE:(prog.info? 5).map (fun i=>(i.zero,i.size,i.bytes))=some (some (.int .u8 0),1,1):=my
theorem kG(n:Nat)(hn:n<=8388608)(w:World):(Instr.makeSlice 28 (.int .i64 (n:Int)) (.int .i64 (n:Int))).run prog w=
 .ok (.slice (some ⟨w,0,none⟩) n n) (w.alloc (.cells (madeCells #[.int .u8 0] n) 5)):=by
 obtain⟨i0,hi,y,j,i⟩:=info_parts lE;have h:=run_make (P:=prog) w 28 5 i0 (.int .u8 0) underlying28 hi y .i64 .i64 (n:Int) (n:Int) nj (Int.le_refl _) ri nj;exact a1j
theorem Ur:(prog.info? 5).map (·.size)=some 1:=my
theorem Yg(w:World)(g c x k:Nat)(hk:k<=100000)(hx:Blk w g 5 #[.int .u8 (x:Nat)]):
 Calls prog 244 #[.slice (some ⟨g,0,none⟩) 1 c, .int .i64 (k:Nat)] w fun e w'=>∃v,e= .returned v/\w'.ownsRow w 5 1 v k (dZ .u8 (List.replicate k x))/\Below w w w':=by
 have D:=hid (YI w k hk);have hm:=kG k nj;have Q:=ig ((k:Int)<0)
 have Y:=ig ((9223372036854775807:Int)<k)
 have z:=ig (9223372036854775807<k)
 have wk:IntKind.u64.wrap (k:Int)=(k:Int):=pm
 have wi:IntKind.i64.wrap (k:Int)=(k:Int):=Ar _ nj;have c0:=hx.ia 0;have hg:=hx.lt;have ae:=hid c0;clear hx;rw[Ze x k]at hm;go_enter func244,ntmps244;go_wp2_with fail;refine D.out.mono ?_;rintro e w1 ⟨rfl,rfl⟩;obtain⟨m,i⟩:=ii (Nat.min 1 k);have ai:m<=k:=by rw[i];exact Nat.min_le_right _ _
 have al:m<=1:=by rw[i];exact Nat.min_le_left _ _
 have HM:=hid i;have U:Hid (0<k->0<m):=fun h=>by rw[i];exact Nat.lt_min.2 ⟨nj,h⟩
 clear i;go_wp2_with((with_reducible show wpList _ _ _ (⟨some 33,_,_,_,_,_⟩ :: _) _ _);refine wpList_copy_splice rfl (.tmp 31) (.tmp 32) 28 28 rfl 5 underlying28 Ur (some ⟨w1,0,none⟩) (some ⟨g,0,none⟩) k k 1 c nm nm w1.heap.size 0 (Fv x 0 k) 5 (heap_alloc_new w1 _) (List.replicate m (.int .u8 (x:Nat))) (by rw[Dv];exact HM.out) (fun _=>⟨rfl,_,rfl,fun j v hv=>by obtain⟨hj,rfl⟩:=RC hv;obtain rfl:j=0:=nj;exact(World.cell?_alloc_lt w1 _ ⟨g,0,none⟩ hg).trans ae.out⟩) (by rw[Dv,U2 (Bf k)];omega) (by intro v hv;rw[(List.mem_replicate.1 hv).2];rfl) w1.heap.size w1 (aZ (Ae _ _)) (Ak _) ?_;intro w2 y aa);have J:=hid aa;rw[UN]at y;rw[Ca]at y;have G:Hid (0<k->0<m):=U.out;clear aa c0 hm D HM U Y z Q wk wi;generalize hb:w1.heap.size=b at *;have L:=hid hb;clear hb;go_loopw [8] (fun nv wr=>∃q:Nat,q<=k/\nv= .int .i64 q/\Hid (0<k->0<q)/\Hid (wr.heap[b]? =some (.cells (Fv x q k).toArray 5 (0,0)))/\Hid (Below b w1 wr)) (fun nv _=>k-(intOf nv).toNat)
 case atStart=>exact⟨m,ai,rfl,G.out,y.out,J.out⟩
 case round=>
  obtain⟨q,hq,rfl,HQ,HG,HB⟩:=hrel;clear y J G;by_cases an:q<k
  ·have g1:=ic ((q:Int)<k);have am:=ic (q<k);have ah:0<q:=HQ.out nj;have N:AR (some ⟨b,0,none⟩) q k 1=some ⟨b,q,none⟩:=(by unfold AR;rw[Aa nj];show some (Addr.add ⟨b,0,none⟩ (q*1))=_;rw[Gj,Ca,CZ]);have ag:=fun wx=>Gr (P:=prog) (t:=28) (s:=1) underlying28 (fun _=>by kernel_rfl) (some ⟨b,0,none⟩) k k .i64 (q:Int) q rfl hq wx;rw[N]at ag;have ak:=fun wx=>EG (P:=prog) (t:=28) (s:=1) underlying28 (fun _=>by kernel_rfl) (some ⟨b,0,none⟩) k k .i64 (q:Int) q rfl hq (by intro a ha;injection ha with ha;subst ha;exact Gj _ _ _) wx;obtain⟨d,hd⟩:=ii (Nat.min q (k-q));have M:q+d<=k/\0<d/\d<=q:=(by have h1:d<=k-q:=(by rw[hd];exact Nat.min_le_right _ _);have h2:d<=q:=(by rw[hd];exact Nat.min_le_left _ _);have h3:0<d:=(by rw[hd];exact Nat.lt_min.2 ⟨ah,nj⟩);omega);have S1:Hid (IntKind.i64.wrap ((q:Int)+(d:Int))=((q+d:Nat):Int)):=(by show _=_;rw[Ar _ nj];omega);have S2:Hid (wrap64 ((q:Int)+(d:Int))=((q+d:Nat):Int)):=(by show _=_;rw[JD _ ⟨nj,nj⟩];omega);have HD:=hid hd;have E:Hid (∀j v,(List.replicate d (Value.int .u8 (x:Nat)))[j]? =some v->wr.cell? (Addr.add ⟨b,0,none⟩ j)=some v):=fun j v hv=>by obtain⟨hj,rfl⟩:=RC hv;have aj:j<q:=nj;rw[Gj,Ca,(show Blk wr b _ _ from HG.out).cell j];simp[Fv,List.getElem?_append,aj]
   clear hd N;have s1:=S1.out;have s2:=S2.out;go_wp2_with fail;go_region_law((refine step_copy_splice rfl (.tmp 41) (.tmp 44) 28 28 rfl 5 underlying28 Ur (some ⟨b,q,none⟩) (some ⟨b,0,none⟩) (k-q) (k-q) q k (by go_simp) (by go_simp) b q (Fv x q k) 5 HG.out (List.replicate d (.int .u8 (x:Nat))) (by rw[Dv];exact HD.out) (fun _=>⟨rfl,_,rfl,E.out⟩) (by rw[Dv,U2 hq];exact M.1) (by intro v hv;rw[(List.mem_replicate.1 hv).2];rfl) b w1 HB.out.drew (Ak _) ?_);intro w4 Z ab)
   all_goals
    have af:Hid (w4.heap[b]? =some (.cells (Fv x (q+d) k).toArray 5 (0,0))):=(by have h:=Z.out;rw[UN]at h;exact h);have ac:=hid ab;clear Z ab
    go_simp
    go_wp2_with fail;go_roundw
    case measure=>exact jq
    case rel=>go_light;exact⟨q+d,M.1,iw,fun _=>nj,af.out,ac.out⟩
  ·obtain rfl:q=k:=by omega
   have g1:=ig ((q:Int)<q);go_wp2_with fail;go_ret;refine⟨_,rfl,⟨su, .inr ⟨b,q,(Fv x q q).toArray,rfl,?_,HG.out,Ak _,sS,by simp[Fv],?_⟩⟩,?_⟩
   ·rw[<-L.out];exact Ak _
   ·rw[CZ,<-YS];exact Cf (by simp[Fv])
   ·rw[<-L.out]at HB;exact HB.out
def EC:Nat->List Nat->Nat->Nat->List Nat->List Nat×Nat×Int
 |0,_,at_,_,acc=>(acc,at_,0)
 |k+1,bs,at_,was,acc=>if Ex bs at_ 0≠0 then([],Ep bs at_ 0,Ex bs at_ 0)else EC k bs (Ep bs at_ 0) ((was+Hs (Dw bs at_ 0)) % 18446744073709551616) (acc++ [(was+Hs (Dw bs at_ 0)) % 18446744073709551616])
theorem JJ{K K':Nat->Prop}(h:Kept K a b)(hi:∀x,K' x->K x):Kept K' a b:=⟨h.os,h.tape,h.output,h.size,fun x hx=>h.block x (hi x hx)⟩
theorem Pf{B:Nat}{c:World}(h:Kept (fun x=>x<B/\x≠g) a b)(hB:B<=b.heap.size)(k:Kept (Bh g b) b c):Kept (fun x=>x<B/\x≠g) a c:=h.trans (JJ k fun x hx=>⟨mm,hx.2⟩)
theorem Nz{s:Nat}{v:Value}{xs:List Value}(h:w.ownsRow base e s v n xs)(hg:g<base)(k:Kept (Bh g w) w w'):w'.ownsRow base e s v n xs:=
 eZ h fun x hx=>k.block x ⟨(Aj h x hx).2,by have:=(Aj h x hx).1;omega⟩
theorem Nu{b:Nat}{t:TypeId}{cs:Array Value}(h:Blk w b t cs)(hg:b≠g)(k:Kept (Bh g w) w w'):Blk w' b t cs:=(k.block b ⟨h.lt,hg⟩).trans h
theorem Ld{k:IntKind}(h:w.ownsRow base e 1 (.slice A n c) n (dZ k ls)):Src w A n c 1 (dZ k ls):=by
 exact a1k
theorem KI{row:Option Nat}{at_:Nat}{bs:List Nat}{er:Int}(h:Cur w g base bs A c at_ er)(hg:w.grownBy w' row)(B:Nat)(j:g<B)(i:∀x,(Value.slice A bs.length c).ownBlock=some x->x<B)(hr:∀x,row=some x->B<=x):Cur w' g base bs A c at_ er:=
 ⟨h.blk.grown hg (fun e=>by have:=hr g e.symm;omega),eZ h.own (fun x hx=>hg.block x (Aj h.own x hx).2 (fun e=>by have:=i x hx;have:=hr x e.symm;omega)),h.le,h.lo⟩
def lenS:Value->Nat
 | .slice _ n _=>n
 |_=>0
theorem Yx:(prog.info? 41).map (fun i=>(i.zero,i.size,i.bytes))=some (some (.int .u64 0),1,8):=my
def Rr(w:World)(n g base:Nat)(bs:List Nat)(A:Option Addr)(c:Nat)(T:List Nat×Nat×Int)(e:Ending)(w':World):Prop:=
 ∃v acc,e= .returned v/\acc.length<=n/\w'.ownsRow w 41 1 v acc.length (dZ .u64 acc)/\Cur w' g base bs A c T.2.1 T.2.2/\Kept (Bh g w) w w'/\(T.2.2=0->acc=T.1)
theorem Yd(w:World)(g base:Nat)(bs:List Nat)(A:Option Addr)(c at_ n:Nat)(af:bs.length<=100000)(h8:∀x∈bs,x<=255)(hn:n<=20000)(h:Cur w g base bs A c at_ 0):
 Calls prog 193 #[.agg #[.pointer (some ⟨g,0,none⟩)], .int .i64 (n:Nat)] w (Rr w n g base bs A c (EC n bs at_ 0 [])):=by
 obtain⟨j0,a8,a3,a0,ax⟩:=info_parts Yx;obtain⟨T,hT⟩:=ii (EC n bs at_ 0 []);rw[<-hT];have aa:Hid (EC (n-0) bs at_ 0 []=T):=hT.symm;have H8:=hid h8;have aw:=hid af;have bc:=h.blk.lt;have H:=hid h;have a4:Hid (∀y,(Value.slice A bs.length c).ownBlock=some y->y<w.heap.size):=fun y hy=>(Aj h.own y hy).2;unfold Rr;clear h h8 hT af;go_enter func193,ntmps193;go_wp2_with fail;have ak:=H.out.step (w':=w.alloc (.cells #[.pointer (some ⟨g,0,none⟩)] 249)) (aZ (Ae _ _));have Y:Blk (w.alloc (.cells #[.pointer (some ⟨g,0,none⟩)] 249)) w 249 #[.pointer (some ⟨g,0,none⟩)]:=Blk.made _ _ _;have M:Kept (Bh g w) w (w.alloc (.cells #[.pointer (some ⟨g,0,none⟩)] 249)):=Kept.of_below (B:=w.heap.size) (aZ (Ae _ _)) (fun x hx=>hx.1);generalize w.alloc (.cells #[.pointer (some ⟨g,0,none⟩)] 249)=w1 at *;have z1:=M.size;have a7:=Y.lt;have an:=hid ak;have a6:=hid Y;have ai:=hid M;have am:w.heap.size≠g:=nj
 clear ak Y M H;go_loopw [5,6] (fun v uv wr=>∃ (a1:Nat) (er:Int) (z p:Nat) (j:List Nat),p<=n/\z<18446744073709551616/\uv= .int .u64 z/\Hid (j.length=p)/\Hid (Cur wr g base bs A c a1 er)/\Hid (wr.ownsRow w1 41 1 v p (dZ .u64 j))/\Hid (Kept (fun x=>x<w1.heap.size/\x≠g) w1 wr)/\Hid (er=0->EC (n-p) bs a1 z j=T)/\Hid (er≠0->T=([],a1,er))) (fun v _ _=>n-lenS v)
 case atStart=>exact⟨at_,0,0,0,[],nj,nj,rfl,rfl,an.out,AI _ _ _ _,Kept.refl _ _,fun _=>aa.out,fun h=>absurd rfl h⟩
 case round=>
  obtain⟨a1,er,z,p,j,hp,ba,rfl,HP,HC,HO,HK,HT,HE⟩:=hrel;have zk:=HK.out.size;obtain⟨va,vc,rfl⟩:=bZ HO.out;have xb:Blk wr w 249 #[.pointer (some ⟨g,0,none⟩)]:=(HK.out.block _ ⟨a7,am⟩).trans a6.out;have x0:=xb.ia 0;have XB:=hid xb;clear xb aa;by_cases be:p<n
  ·have g1:=ic ((p:Int)<n);have bf:=ic (p<n);have DE:=hid (Dn wr g base bs A c a1 er HC.out);by_cases he:er=0
   ·subst he;have G:=HT.out rfl;rw[show n-p=(n-(p+1))+1 by omega,EC]at G;have L:Dw bs a1 0<18446744073709551616:=(by have az:∀x∈bs.drop a1,x<=255:=fun x hx=>H8.out x (Bz hx);have:=(Jt (bs.drop a1) 0 0 az nj rX).1;unfold Dw;rw[Aa rX];exact this);have D1:=hid (fun wx hx=>Ac1 wx g base bs A c a1 0 aw.out H8.out hx);generalize Dw bs a1 0=v1 at *;generalize Ep bs a1 0=a2 at *;generalize Ex bs a1 0=e2 at *;have bb:=Zq L;have D2:=hid (fun wx=>Y6 wx v1 L);generalize Hs v1=y1 at *;have s1:IntKind.u64.wrap ((z:Int)+(y1:Int))=(((z+y1) % 18446744073709551616:Nat):Int):=pm;have al:(z+y1) % 18446744073709551616<18446744073709551616:=Nat.mod_lt _ nj;generalize (z+y1) % 18446744073709551616=i at *;have ag:Hid ((e2=0->EC (n-(p+1)) bs a2 i (j++ [i])=T)/\(e2≠0->T=([],a2,e2))):=⟨fun h=>by rw[Aa sw]at G;exact G,fun h=>by rw[Ab h]at G;exact G.symm⟩;clear G HT HE;go_wp2_with fail;refine DE.out.mono ?_;rintro e w2 ⟨rfl,rfl⟩;go_wp2_with fail;refine(D1.out _ HC.out).mono ?_;rintro e w3 ⟨rfl,ah,J⟩;have z3:=J.size;have aq:=hid ah;have ae:Hid (w3.ownsRow w1 41 1 (.slice va p vc) p (dZ .u64 j)):=Nz HO.out nj J;have av:Hid (Kept (fun x=>x<w1.heap.size/\x≠g) w1 w3):=Pf HK.out zk J;clear ah J x0 HC HO HK DE D1 XB;go_wp2_with fail;refine(D2.out _).mono ?_;rintro e w4 ⟨rfl,rfl⟩;go_wp2_with(at_builtin;refine iZ rfl (.tmp 23) (.tmp 25) 98 rfl w1 41 j0 _ 1 8 underlying98 a8 a3 a0 ax rfl ip _ _ _ nm (ae.out.alloc _) _ 1 1 [.int .u64 (i:Nat)] nm (Src.of_blk (Blk.made_at _ _ _ rX) 1 1 1 rfl) mp sS nj sj ?_;intro v5 w5 E U aj;obtain⟨A5,c5,rfl⟩:=bZ E);have Q:=aZ (o:= .cells #[.int .u64 (i:Nat)] 41) (Ae w4 w4);have ab:=aq.out.step Q;have Z:Kept (fun x=>x<w1.heap.size/\x≠g) w1 (w4.alloc (.cells #[.int .u64 (i:Nat)] 41)):=av.out.trans (Kept.of_below Q (fun x hx=>by have:=hx.1;omega));have bd:=Z.size;have N:∀y,(Value.slice va p vc).ownBlock=some y->w1.heap.size<=y:=fun y hy=>(Aj ae.out y hy).1;have ac:Cur w5 g base bs A c a2 e2:=KI ab U w1 nj (fun y hy=>by have:=a4.out y hy;omega) N;have ay:Hid (Kept (fun x=>x<w1.heap.size/\x≠g) w1 w5):=Z.grown U (fun y hy=>by have:=hy.1;omega) (fun y hy hh=>by have:=N y hy;have:=hh.1;omega);have au:=hid ac;have a9:Hid (w5.ownsRow w1 41 1 (.slice A5 (p+1) c5) (p+1) (dZ .u64 (j++ [i]))):=(by show World.ownsRow _ _ _ _ _ _ _;rw[show dZ .u64 (j++ [i])=dZ .u64 j++ [.int .u64 (i:Nat)] by simp[dZ]];exact E);clear E U aj Q ab Z ac N;go_roundw
    case measure=>go_light;simp[lenS];omega
    case rel=>go_light;exact⟨a2,e2,i,p+1,j++ [i],nj,al,iw,by show _=_;rw[Ag,HP.out];rfl,au.out,a9.out,ay.out,ag.out.1,ag.out.2⟩
   ·have g2:(er==0)=false:=sJ;have a5:=hid (HE.out he);have ar:=hid he;clear he HT HE;go_wp2_with fail;refine DE.out.mono ?_;rintro e w2 ⟨rfl,rfl⟩;go_wp2_with fail;go_ret;rw[a5.out];refine⟨_,j,rfl,qc,qg,HC.out,ai.out.trans (JJ HK.out fun x hx=>⟨mm,hx.2⟩),fun h=>absurd h ar.out⟩
  ·obtain rfl:p=n:=by omega
   have HF:Hid (a1=T.2.1/\er=T.2.2/\(T.2.2=0->j=T.1)):=by
    by_cases he:er=0
    ·subst he;have h:=HT.out rfl;rw[G0,EC]at h;rw[<-h];exact⟨rfl,rfl,fun _=>rfl⟩
    ·have h:=HE.out he;rw[h];exact⟨rfl,rfl,fun h0=>absurd h0 he⟩
   have g1:=ig ((p:Int)<p);clear HT HE;go_wp2_with fail;go_ret;refine⟨_,j,rfl,qc,qg,by rw[<-HF.out.1,<-HF.out.2.1];exact HC.out,ai.out.trans (JJ HK.out fun x hx=>⟨mm,hx.2⟩),HF.out.2.2⟩
def Hb(m:Nat)(bs:List Nat)(at_:Nat):Nat×Nat×Nat×Int:=
 (Er bs at_ 0,AV m bs (takeA bs at_ 0 1) (Bq bs at_ 0 1),uZ m bs (takeA bs at_ 0 1) (Bq bs at_ 0 1),wZ m bs (takeA bs at_ 0 1) (Bq bs at_ 0 1))
def Kt(acc:List Nat)(o:Nat×Nat×Nat×Int):Int:=if o.2.2.2≠0 then o.2.2.2 else if o.2.1=0∨acc.getLast?=some o.1 then 2 else 0
def EF:Nat->Nat->List Nat->Nat->List Nat->List Nat×Nat×Int
 |0,_,_,at_,acc=>(acc,at_,0)
 |f+1,n,bs,at_,acc=>if n<=acc.length then(acc,at_,0)else if Kt acc (Hb (n-acc.length) bs at_)≠0 then([],(Hb (n-acc.length) bs at_).2.2.1,Kt acc (Hb (n-acc.length) bs at_))else
  EF f n bs (Hb (n-acc.length) bs at_).2.2.1 (acc++List.replicate (Hb (n-acc.length) bs at_).2.1 (Hb (n-acc.length) bs at_).1)
theorem jO{bs:List Nat}(h8:∀x∈bs,x<=255)(at_:Nat)(er:Int)(h:wZ m bs at_ er≠0):AV m bs at_ er=0:=by
 unfold wZ at h;unfold AV;by_cases he:er=0
 ·rw[Aa sC]at h;rw[Aa sC];exact((Hu m (bs.drop at_) fun x hx=>h8 x (Bz hx)).2.2.2.1 h).1
 ·rw[Ab he]
theorem Uy{f:Nat}{bs:List Nat}{at_:Nat}{i:List Nat}(h:n<=i.length):EF f n bs at_ i=(i,at_,0):=by
 cases f with
 |zero=>rfl
 |succ f=>exact Ab h
def GI(w:World)(g:Nat):Int:=intOf ((w.cell? ⟨g,2,none⟩).getD (.int .i64 0))
theorem iV:(prog.info? 5).map (fun i=>(i.zero,i.size,i.bytes))=some (some (.int .u8 0),1,1):=my
def WL(w:World)(n g base:Nat)(bs:List Nat)(A:Option Addr)(c:Nat)(T:List Nat×Nat×Int)(e:Ending)(w':World):Prop:=
 ∃v acc,e= .returned v/\acc.length<=n/\w'.ownsRow w 5 1 v acc.length (dZ .u8 acc)/\Cur w' g base bs A c T.2.1 T.2.2/\Kept (Bh g w) w w'/\(T.2.2=0->acc=T.1)
theorem a0d{p:Prop}(h:p:=by
  have z5:=L.out.size;go_wp2_with fail;have bq:Blk (w5.alloc (.cells #[.int .u8 (x:Nat)] 5)) w5 5 #[.int .u8 (x:Nat)]:=Blk.made _ _ _;refine(DR.out _ _ _ x k a0 bq).mono ?_;rintro e w6 ⟨v6,rfl,U,G⟩;obtain⟨A6,c6,rfl⟩:=bZ U;have z6:=G.size;simp at z6;have aw:Hid (Src w6 A6 k c6 1 (dZ .u8 (List.replicate k x))):=Ld U;have ae:Hid (w6.ownsRow w1 5 1 _ p (dZ .u8 j)):=eZ (Y.out.alloc _) (fun y hy=>G.block y ld);have ah:Cur w6 g base bs A c a2 i:=ac.out.step ((aZ (Ae _ _)).trans (G.mono rX));have ag:Hid (Kept (fun x=>x<w1.heap.size/\x≠g) w1 w6):=L.out.trans (Kept.of_below ((aZ (Ae _ _)).trans (G.mono rX)) (fun y hy=>by have:=hy.1;omega));have ay:=hid ah;clear U G bq ah ac Y L DR;go_wp2_with(at_builtin;refine iZ rfl (.tmp 54) (.tmp 58) 28 rfl w1 5 j0 _ 1 1 underlying28 bf bc bb a7 rfl ip _ _ _ nm ae.out _ _ _ _ nm aw.out (Ce _ _) sS nj nj ?_;intro v7 w7 E Q ab);obtain⟨A7,c7,rfl⟩:=bZ E;have N:=fun(y:Nat) hy=>(Aj ae.out y hy).1;have z7:=ag.out.size;have M:Cur w7 g base bs A c a2 i:=KI ay.out Q w1 nj (fun y hy=>by have:=bd.out y hy;omega) N;have av:Hid (Kept (fun x=>x<w1.heap.size/\x≠g) w1 w7):=ag.out.grown Q (fun y hy=>by have:=hy.1;omega) (fun y hy hh=>by have:=N y hy;have:=hh.1;omega);have am:Hid (w7.ownsRow w1 5 1 (.slice A7 (p+k) c7) (p+k) (dZ .u8 (j++List.replicate k x))):=rJ;have ar:=hid M;have aq:Hid (GI w7 g=i):=rT;clear E Q ab N M;go_roundw
  case measure=>exact jp
  case rel=>exact jb):p:=h
theorem XX(w:World)(g base:Nat)(bs:List Nat)(A:Option Addr)(c at_ n:Nat)(au:Int)(bO:bs.length<=100000)(h8:∀x∈bs,x<=255)(hn:n<=20000)(h:Cur w g base bs A c at_ au):
 Calls prog 194 #[.agg #[.pointer (some ⟨g,0,none⟩)], .int .i64 (n:Nat)] w (WL w n g base bs A c (if au≠0 then([],at_,au)else EF n n bs at_ [])):=by
 obtain⟨j0,bf,bc,bb,a7⟩:=info_parts iV;obtain⟨T,hT⟩:=ii (if au≠0 then([],at_,au)else EF n n bs at_ [])
 rw[<-hT];have bk:Hid ((au=0->∃f,n<=f+0/\EF f n bs at_ []=T)/\(au≠0->T=([],at_,au))):=⟨fun h=>⟨n,Ak _,by rw[hT,Aa sw]⟩,fun h=>by rw[hT,Ab h]⟩;have H8:=hid h8;have bx:=hid bO;have ce:=h.blk.lt;have H:=hid h;have bd:Hid (∀y,(Value.slice A bs.length c).ownBlock=some y->y<w.heap.size):=fun y hy=>(Aj h.own y hy).2;unfold WL;clear h h8 hT bO;go_enter func194,ntmps194;go_wp2_with fail;have b4:=H.out.step (w':=w.alloc (.cells #[.pointer (some ⟨g,0,none⟩)] 249)) (aZ (Ae _ _));have bn:Blk (w.alloc (.cells #[.pointer (some ⟨g,0,none⟩)] 249)) w 249 #[.pointer (some ⟨g,0,none⟩)]:=Blk.made _ _ _;have bj:Kept (Bh g w) w (w.alloc (.cells #[.pointer (some ⟨g,0,none⟩)] 249)):=Kept.of_below (B:=w.heap.size) (aZ (Ae _ _)) (fun x hx=>hx.1);generalize w.alloc (.cells #[.pointer (some ⟨g,0,none⟩)] 249)=w1 at *;have z1:=bj.size;have cc:=bn.lt;have b6:=hid b4;have ca:=hid bn;have b0:=hid bj;have bi:w.heap.size≠g:=nj
 clear b4 bn bj H;go_loopw [5] (fun v wr=>∃ (a1:Nat) (er:Int) (p:Nat) (j:List Nat),p<=n/\Hid (j.length=p)/\Hid (Cur wr g base bs A c a1 er)/\Hid (wr.ownsRow w1 5 1 v p (dZ .u8 j))/\Hid (Kept (fun x=>x<w1.heap.size/\x≠g) w1 wr)/\Hid (er=0->∃f,n<=f+p/\EF f n bs a1 j=T)/\Hid (er≠0->T=([],a1,er))) (fun v wr=>(n-lenS v)+if GI wr g=0 then 1 else 0)
 case atStart=>exact⟨at_,au,0,[],nj,rfl,b6.out,AI _ _ _ _,Kept.refl _ _,bk.out.1,bk.out.2⟩
 case round=>
  obtain⟨a1,er,p,j,hp,HP,HC,HO,HK,HT,HE⟩:=hrel;have zk:=HK.out.size;obtain⟨va,vc,rfl⟩:=bZ HO.out;have xb:Blk wr w 249 #[.pointer (some ⟨g,0,none⟩)]:=(HK.out.block _ ⟨cc,bi⟩).trans ca.out;have x0:=xb.ia 0;have XB:=hid xb;have bg:Hid (GI wr g=er):=by show _=_;unfold GI;rw[HC.out.cells.2.2];rfl
  clear xb bk;by_cases co:p<n
  ·have g1:=ic ((p:Int)<n);have cr:=ic (p<n);have DE:=hid (Dn wr g base bs A c a1 er HC.out);by_cases he:er=0
   ·subst he;obtain⟨f,hf,a6⟩:=HT.out rfl;obtain⟨f,rfl⟩:∃f',f=f'+1:=⟨f-1,nj⟩;rw[EF,Aa (by rw[HP.out];omega),HP.out]at a6;obtain⟨m,hm⟩:=ii (n-p);have sm:IntKind.i64.wrap ((n:Int)-(p:Int))=(m:Int):=pj;rw[<-hm]at a6;have cg:=hid hm;have cp:p+m<=n/\m<=20000:=nj;clear hm;have D1:=hid (fun wx hx=>NE wx g base bs A c a1 0 bx.out hx);have cd:AV m bs (takeA bs a1 0 1) (Bq bs a1 0 1)<=m:=zY H8.out _ _;have ci:Hid (wZ m bs (takeA bs a1 0 1) (Bq bs a1 0 1)≠0->AV m bs (takeA bs a1 0 1) (Bq bs a1 0 1)=0):=jO H8.out _ _;unfold Kt Hb at a6;simp only at a6;have D2:=hid (fun wx hx=>GO wx g base bs A c (takeA bs a1 0 1) (Bq bs a1 0 1) m bx.out H8.out nj hx);generalize Er bs a1 0=x at *;generalize takeA bs a1 0 1=b1 at *;generalize Bq bs a1 0 1=d1 at *;generalize AV m bs b1 d1=k at *;generalize uZ m bs b1 d1=a2 at *;generalize wZ m bs b1 d1=e2 at *;have a0:k<=100000:=nj;have DR:=hid (fun wx gx cx y kk hkk hb=>Yg wx gx cx y kk hkk hb);have ax:=hid a6;have HF:=hid hf;clear a6 HT HE hf;go_wp2_with fail;refine DE.out.mono ?_;rintro e w2 ⟨rfl,rfl⟩;go_wp2_with fail;refine(D1.out _ HC.out).mono ?_;rintro e w3 ⟨rfl,bS,ba⟩;have z3:=ba.size;have bp:=hid bS;have bN:Hid (w3.ownsRow w1 5 1 (.slice va p vc) p (dZ .u8 j)):=Nz HO.out nj ba;have bu:Hid (Kept (fun x=>x<w1.heap.size/\x≠g) w1 w3):=Pf HK.out zk ba;have bm:=hid (Nu XB.out bi ba);have x3:=bm.out.ia 0;clear bS ba x0 HC HO HK DE D1 XB;go_wp2_with fail;refine(D2.out _ bp.out).mono ?_;rintro e w4 ⟨rfl,bt,bh⟩;have z4:=bh.size;have ak:=hid bt;have aa:Hid (w4.ownsRow w1 5 1 (.slice va p vc) p (dZ .u8 j)):=Nz bN.out nj bh;have al:Hid (Kept (fun x=>x<w1.heap.size/\x≠g) w1 w4):=Pf bu.out nj bh;have bl:=hid (Nu bm.out bi bh);have x4:=bl.out.ia 0;have b9:=hid (Dn w4 g base bs A c a2 e2 ak.out);clear bt bh x3 bp bN bu D2 bm;go_wp2_with fail;refine b9.out.mono ?_;rintro e w5 ⟨rfl,rfl⟩;by_cases a5:e2=0
    ·subst a5;have Z:=ax.out;rw[Aa (show ¬((0:Int)≠0) from fun h=>h rfl)]at Z;by_cases a3:k=0
     ·have gk:((k:Int)==0)=true:=(by rw[a3];rfl);obtain⟨i,J⟩:=ii (ES 0 2);have ai:i=2:=J.trans (Ab rfl);have af:Hid ((i=0->∃f',n<=f'+(p+k)/\EF f' n bs a2 (j++List.replicate k x)=T)/\(i≠0->T=([],a2,i))):=⟨fun h=>absurd (ai.symm.trans h) ip,fun _=>by rw[Ab (Or.inl a3),Ab ip]at Z;rw[ai];exact Z.symm⟩;have an:Hid (n-(p+k)+(if i=0 then 1 else 0)<n-p+1):=(by show _<_;rw[Aa (by rw[ai];decide)];omega);have DF:=hid (GS w5 g base bs A c a2 0 2 ak.out);rw[<-J]at DF;clear Z ai J ax a3;go_wp2_with fail;refine DF.out.mono ?_;rintro e w6 ⟨rfl,a9,a4⟩;have Y:Hid (w6.ownsRow w1 5 1 _ p (dZ .u8 j)):=eZ aa.out (fun z hz=>a4.block z (by have:=(Aj aa.out z hz).1;omega));have L:Hid (Kept (fun x=>x<w1.heap.size/\x≠g) w1 w6):=al.out.trans (JJ a4 fun z hz=>hz.2);have ac:=hid a9;clear aa al ak a4 a9 DF bl x4 z4;obtain⟨w5,rfl⟩:=ii w6;exact a0d
     ·have gk:((k:Int)==0)=false:=pp;have cm:(k==0)=false:=pp;by_cases bC:p=0
      ·have gp:=ig ((0:Int)<p);have b5:=ig (0<p);have a8:¬(k=0∨j.getLast?=some x):=fun h=>h.elim a3 (fun h=>by rw[Gn (HP.out.trans bC)]at h;cases h);obtain⟨i,J⟩:∃i:Int,i=0:=⟨_,rfl⟩;have af:Hid ((i=0->∃f',n<=f'+(p+k)/\EF f' n bs a2 (j++List.replicate k x)=T)/\(i≠0->T=([],a2,i))):=⟨fun _=>⟨f,lq,by rw[Aa a8,Aa (show ¬((0:Int)≠0) from fun h=>h rfl)]at Z;exact Z⟩,fun h=>absurd J h⟩;have an:Hid (n-(p+k)+(if i=0 then 1 else 0)<n-p+1):=(by show _<_;rw[Ab J];omega);have aj:Hid (Cur w5 g base bs A c a2 i):=(by rw[J];exact ak.out);clear Z J ax a3 a8 bC;have ac:=aj;have Y:=aa;have L:=al;clear ak aa al aj;exact a0d
      ·obtain⟨gq,cq,b8,cj,_⟩:=aa.out.form nj;injection b8 with e1 e2 e3;subst e1 e3;obtain⟨y,hy⟩:∃y,j[p-1]? =some y:=⟨_,Az lz⟩;have az:j.getLast?=some y:=by rw[List.getLast?_eq_getElem?,HP.out];exact hy
       have cy:w5.cell? ⟨gq,p-1,none⟩=some (.int .u8 (y:Nat)):=(by rw[aa.out.cellAt (p-1) nj];unfold dZ;rw[Co,hy];rfl);obtain⟨p1,b3⟩:=ii (p-1);rw[<-b3]at cy;have sp:IntKind.i64.wrap ((p:Int)-1)=(p1:Int):=pj;have gp:=ic ((0:Int)<p);have b5:=ic (0<p);have cl:(0:Int)<=(p1:Int):=nj;have cf:(p1:Int)<(p:Int):=nj;clear hy b3;by_cases be:y=x
       ·have gx:((y:Int)==(x:Int))=true:=(by rw[be];simp);rw[be]at az;clear be;obtain⟨i,J⟩:=ii (ES 0 2);have ai:i=2:=J.trans (Ab rfl);have af:Hid ((i=0->∃f',n<=f'+(p+k)/\EF f' n bs a2 (j++List.replicate k x)=T)/\(i≠0->T=([],a2,i))):=⟨fun h=>absurd (ai.symm.trans h) ip,fun _=>by rw[Ab (Or.inr az),Ab ip]at Z;rw[ai];exact Z.symm⟩;have an:Hid (n-(p+k)+(if i=0 then 1 else 0)<n-p+1):=(by show _<_;rw[Aa (by rw[ai];decide)];omega);have DF:=hid (GS w5 g base bs A c a2 0 2 ak.out);rw[<-J]at DF;clear Z ai J ax az a3;go_wp2_with fail;refine DF.out.mono ?_;rintro e w6 ⟨rfl,a9,a4⟩;clear cy;have Y:Hid (w6.ownsRow w1 5 1 _ p (dZ .u8 j)):=eZ aa.out (fun z hz=>a4.block z (by have:=(Aj aa.out z hz).1;omega));have L:Hid (Kept (fun x=>x<w1.heap.size/\x≠g) w1 w6):=al.out.trans (JJ a4 fun z hz=>hz.2);have ac:=hid a9;clear aa al ak a4 a9 DF bl x4 z4;obtain⟨w5,rfl⟩:=ii w6;exact a0d
       ·have gx:((y:Int)==(x:Int))=false:=pp;obtain⟨i,J⟩:∃i:Int,i=0:=⟨_,rfl⟩;have a8:¬(k=0∨j.getLast?=some x):=fun h=>h.elim a3 (fun h=>by rw[az]at h;injection h with h;exact be h);have af:Hid ((i=0->∃f',n<=f'+(p+k)/\EF f' n bs a2 (j++List.replicate k x)=T)/\(i≠0->T=([],a2,i))):=⟨fun _=>⟨f,lq,by rw[Aa a8,Aa rX]at Z;exact Z⟩,fun h=>absurd J h⟩;have an:Hid (n-(p+k)+(if i=0 then 1 else 0)<n-p+1):=(by show _<_;rw[Ab J];omega);have aj:Hid (Cur w5 g base bs A c a2 i):=(by rw[J];exact ak.out);clear Z J ax az a8 be a3;have ac:=aj;have Y:=aa;have L:=al;clear ak aa al aj;exact a0d
    ·have gE:(e2==0)=false:=(by simpa using a5);have Z:=ax.out;rw[Ab a5,Ab a5]at Z;have af:Hid ((e2=0->∃f',n<=f'+(p+k)/\EF f' n bs a2 (j++List.replicate k x)=T)/\(e2≠0->T=([],a2,e2))):=⟨fun h=>absurd h a5,fun _=>Z.symm⟩;have an:Hid (n-(p+k)+(if e2=0 then 1 else 0)<n-p+1):=(by show _<_;rw[Aa a5];omega);have aj:Hid (Cur w5 g base bs A c a2 e2):=ak.out;clear Z ax a5;obtain⟨i,rfl⟩:=ii e2;have ac:=aj;have Y:=aa;have L:=al;clear ak aa al aj;exact a0d
   ·have g2:(er==0)=false:=sJ;have ax:=hid (HE.out he);have b7:=hid he;clear he HT HE;go_wp2_with fail;refine DE.out.mono ?_;rintro e w2 ⟨rfl,rfl⟩;go_wp2_with fail;go_ret;rw[ax.out];refine⟨_,j,rfl,qc,qg,HC.out,b0.out.trans (JJ HK.out fun x hx=>⟨mm,hx.2⟩),fun h=>absurd h b7.out⟩
  ·obtain rfl:p=n:=by omega
   have HF:Hid (a1=T.2.1/\er=T.2.2/\(T.2.2=0->j=T.1)):=by
    by_cases he:er=0
    ·subst he;obtain⟨f,_,h⟩:=HT.out rfl;rw[Uy (by rw[HP.out];exact Ak _)]at h;rw[<-h];exact⟨rfl,rfl,fun _=>rfl⟩
    ·have h:=HE.out he;rw[h];exact⟨rfl,rfl,fun h0=>absurd h0 he⟩
   have g1:=ig ((p:Int)<p);clear HT HE;go_wp2_with fail;go_ret;refine⟨_,j,rfl,qc,qg,by rw[<-HF.out.1,<-HF.out.2.1];exact HC.out,b0.out.trans (JJ HK.out fun x hx=>⟨mm,hx.2⟩),HF.out.2.2⟩
def Ha(n:Nat)(bs:List Nat)(T:List Nat×Nat×Int):List Nat×Nat×Int:=if T.2.2≠0 then([],T.2.1,T.2.2)else EF n n bs T.2.1 []
def Kr(T L:List Nat×Nat×Int):List Nat×List Nat×Nat×Int:=if L.2.2≠0 then([],[],0,L.2.2)else(T.1,L.1,L.2.1,0)
def By(n:Nat)(bs:List Nat):List Nat×List Nat×Nat×Int:=Kr (EC n bs 0 0 []) (Ha n bs (EC n bs 0 0 []))
theorem O8{bs:List Nat}{T:List Nat×Nat×Int}(h:(Ha n bs T).2.2=0):T.2.2=0:=by
 by_cases e:T.2.2=0
 ·exact e
 ·unfold Ha at h;rw[Ab e]at h;exact h
theorem Ry{fn:Func}{t u v x:Tmp}(h:fn.results=#[.tmp t, .tmp u, .tmp v, .tmp x])(i:Array Value)(P:Program)(w:World):
 (results fn i).run P w= .ok (.tuple #[i.getD t undef,i.getD u undef,i.getD v undef,i.getD x undef]) w:=by
 simp[results,h]
def OF(R:List Nat×List Nat×Nat×Int)(w:World)(e:Ending)(w':World):Prop:=
 ∃vt vl,e= .returned (.tuple #[vt,vl, .int .i64 (R.2.2.1:Nat),R.2.2.2])/\w'.ownsRow w 41 1 vt R.1.length (dZ .u64 R.1)/\w'.ownsRow w 5 1 vl R.2.1.length (dZ .u8 R.2.1)/\Below w w w'
theorem eJ(w:World)(A:Option Addr)(n c:Nat)(bs:List Nat)(k:Nat)(hn:bs.length=n)(au:n<=100000)(h8:∀x∈bs,x<=255)(M:A=none->n=0/\c=0)(ha:Row w w A n 1 (jZ .u8 bs))(hk:k<=20000):
 Calls prog 116 #[.int .i64 (k:Nat), .slice A n c] w (OF (By k bs) w):=by
 have D0:=hid (Ab7 w A n c bs hn au M ha);have E:bs.length<=100000:=nj
 have D1:=hid (fun wx g base B d h=>Yd wx g base bs B d 0 k E h8 hk h);have D2:=hid (fun wx g base B d at_ er h=>XX wx g base bs B d at_ k er E h8 hk h);have a1:=ig ((k:Int)<0)
 have a4:=ig ((20000:Int)<k)
 have ay:=ig (20000<k)
 unfold By;obtain⟨T,hT⟩:=ii (EC k bs 0 0 []);rw[<-hT]at D1 ⊢;have af:=hid (fun h=>O8 (n:=k) (bs:=bs) (T:=T) h);have HL:Hid (∀at_ er,at_=T.2.1->er=T.2.2->(if er≠0 then([],at_,er)else EF k k bs at_ [])=Ha k bs T):=fun at_ er h1 h2=>by subst h1 h2;rfl
 unfold OF;clear hn M ha h8 au hT;generalize Ha k bs T=L at *;obtain⟨tl,ta,te⟩:=T;obtain⟨ll,la,le⟩:=L;simp only at *;go_enter func116,ntmps116;go_wp2_with fail;refine D0.out.mono ?_;rintro e w1 ⟨g,B,d,rfl,z,Z⟩;have z1:=Z.size;have a5:=z.blk.lt;have a3:=z.lo;have aj:=hid z;have ax:=hid Z;clear z Z D0;go_wp2_with fail;have Q:=aj.out.step (w':=w1.alloc (.cells #[.pointer (some ⟨g,0,none⟩)] 249)) sT;have al:Blk (w1.alloc (.cells #[.pointer (some ⟨g,0,none⟩)] 249)) w1 249 #[.pointer (some ⟨g,0,none⟩)]:=Blk.made _ _ _;have N:Below w w (w1.alloc (.cells #[.pointer (some ⟨g,0,none⟩)] 249)):=pZ z1 ax.out;generalize w1.alloc (.cells #[.pointer (some ⟨g,0,none⟩)] 249)=w2 at *;have z2:=N.size;have ah:w1.heap.size≠g:=nj
 have az:=Q.blk.lt;have aw:=hid al;have ai:=hid N;have DT:=hid (D1.out w2 g w B d Q);clear Q al N aj ax D1;refine DT.out.mono ?_;rintro e w3 ⟨vt,i,rfl,a7,aa,av,y,aq⟩;obtain⟨At,ct,rfl⟩:=bZ aa;have ac:=hid (Nu aw.out ah y);have x3:=ac.out.ia 0;have J:=hid aa;have z3:=y.size;have ar:Hid (Below w w w3):=ai.out.trans (y.below fun b h=>⟨nj,nj⟩);have ae:=hid aq;have DL:=hid (D2.out w3 g w B d ta te av);rw[HL.out ta te rfl rfl]at DL;clear aa av y aq DT aw ai D2 HL;go_wp2_with fail;refine DL.out.mono ?_;rintro e w4 ⟨vl,ak,rfl,a6,ab,U,j,G⟩;obtain⟨Al,cl,rfl⟩:=bZ ab;have a0:=hid (Nu ac.out ah j);have x4:=a0.out.ia 0;have z4:=j.size;have am:Hid (w4.ownsRow w 41 1 (.slice At i.length ct) i.length (dZ .u64 i)):=kZ (Nz J.out az j) z2;have an:=hid (kZ ab (by omega:w.heap.size<=w3.heap.size));have ag:Hid (Below w w w4):=ar.out.trans (j.below fun b h=>⟨nj,nj⟩);have Y:=hid G;have DE:=hid (Dn w4 g w bs B d la le U);have DA:=hid (Ig w4 g w bs B d la le U);clear ab U j G DL ac J ar x3;go_wp2_with fail;refine DE.out.mono ?_;rintro e w5 ⟨rfl,rfl⟩;by_cases he:le=0
 ·subst he;have et:=ae.out (af.out rfl);have el:=Y.out rfl;have hR:Kr (tl,ta,te) (ll,la,0)=(i,ak,la,0):=by rw[et,el];exact Aa (by simp)
  have HR:=hid hR;clear et el hR ae Y af;go_wp2_with fail;refine DA.out.mono ?_;rintro e w6 ⟨rfl,rfl⟩;go_wp2_with fail;rw[HR.out];refine Bx (Ry rfl _ _ _) rfl ?_;exact⟨_,_,rfl,am.out,an.out,ag.out⟩
 ·have g1:(le != 0)=true:=by simpa using he
  have HR:Hid (Kr (tl,ta,te) (ll,la,le)=([],[],0,le)):=Ab he;clear he ae Y af;go_wp2_with fail;rw[HR.out];refine Bx (Ry rfl _ _ _) rfl ?_;exact⟨_,_,rfl,AI _ _ _ _,AI _ _ _ _,ag.out⟩
def GJ(k:Nat)(ls:List Nat):Int:=if BI ls≠0 then BI ls else if(By k (AJ ls)).2.2.2≠0 then(By k (AJ ls)).2.2.2 else if(By k (AJ ls)).2.2.1<(AJ ls).length then 2 else 0
theorem JM(h8:∀x∈ls,x<=255):∀x∈AJ ls,x<=255:=fun x hx=>by
 unfold AJ at hx;split at hx
 ·exact h8 x (BX hx)
 ·simp at hx
theorem OH(ls:List Nat):(AJ ls).length<=ls.length:=by
 unfold AJ;split
 ·rw[AY];omega
 ·simp
def O0(w:World)(gb:Nat)(t:TypeId)(cs:Array Value)(k:Nat)(ls:List Nat)(e:Ending)(w':World):Prop:=
 e= .returned (.int .i64 (GJ k ls))/\Kept (fun x=>x<w.heap.size/\x≠gb) w w'/\(GJ k ls=0->∃vt vl,Blk w' gb t ((cs.setIfInBounds 4 vt).setIfInBounds 5 vl)/\w'.ownsRow w 41 1 vt (By k (AJ ls)).1.length (dZ .u64 (By k (AJ ls)).1)/\w'.ownsRow w 5 1 vl (By k (AJ ls)).2.1.length (dZ .u8 (By k (AJ ls)).2.1))
theorem Y0(w:World)(gb:Nat)(t:TypeId)(cs:Array Value)(A:Option Addr)(n c k:Nat)(ls:List Nat)(hB:Blk w gb t cs)(aw:6<=cs.size)(ai:41≠t)(al:5≠t)(hn:ls.length=n)(aq:n<=100000)(hc:n<=c)(h8:∀x∈ls,x<=255)(ht:TabAt w)(ha:Row w w A n 1 (jZ .u8 ls))(hk:k<=20000):
 Calls prog 59 #[.pointer (some ⟨gb,4,none⟩), .int .i64 (k:Nat), .slice A n c] w (O0 w gb t cs k ls):=by
 have D0:=KF w A n c ls hn aq hc h8 ht ha;unfold GK at D0;have ax:=hB.lt;have ak:=JM h8;have ay:=OH ls;unfold O0;obtain⟨R,hR⟩:=ii (GJ k ls);rw[<-hR];unfold GJ at hR;generalize BI ls=ce at *;generalize AJ ls=co at *;have ar:co.length<=100000:=nj
 have DR:=hid (fun wx (Ax:Option Addr) (cx:Nat) (hnx:Ax=none->co.length=0/\cx=0) (hax:Row wx wx Ax co.length 1 (jZ .u8 co))=>eJ wx Ax co.length cx co k rfl nj ak hnx hax hk);generalize By k co=C at *;obtain⟨ct,cl,ck,aa⟩:=C;unfold OF at DR;simp only at hR DR;have D0:=hid D0;have HR:=hid hR;have an:=hid hB;clear hn hc h8 ht ha hR ak hB;go_enter func59,ntmps59;go_wp2_with fail;refine D0.out.mono ?_;rintro e w1 ⟨v,rfl,j,J⟩;obtain⟨Ac,cc,rfl⟩:=bZ j;have G:=hid J;have am:Hid (Kept (fun x=>x<w.heap.size/\x≠gb) w w1):=Kept.of_below J (fun x hx=>hx.1);by_cases E:ce=0
 ·subst E;have hr:=HR.out;rw[Aa (show ¬((0:Int)≠0) from fun h=>h rfl)]at hr;have z:=hid hr;have D1:=hid (DR.out w1 Ac cc (JT j) (Ab5 j));obtain⟨m,hm⟩:=ii co.length;rw[<-hm]at D1 hr ar;have HM:=hid hm;clear j J hr DR D0 HR;rw[<-hm];clear hm;go_wp2_with fail;refine D1.out.mono ?_;rintro e w2 ⟨vt,vl,rfl,Y,Z,ae⟩;obtain⟨At,nt,rfl⟩:=bZ Y;obtain⟨Al,nl,rfl⟩:=bZ Z;have ac:Hid (Below w w w2):=G.out.trans (ae.mono G.out.size);have y:=hid (an.out.step (ac.out));have af:=hid (kZ Y G.out.size);have ag:=hid (kZ Z G.out.size);have Q:Hid (Kept (fun x=>x<w.heap.size/\x≠gb) w w2):=Kept.of_below ac.out (fun x hx=>hx.1);clear Y Z ae D1 G am;by_cases i:aa=0
  ·subst i;have hr:=z.out;rw[Aa (show ¬((0:Int)≠0) from fun h=>h rfl),<-HM.out]at hr;by_cases L:ck<m
   ·have g1:=ic ((ck:Int)<m);have au:=ic (ck<m);have HF:Hid (R=2):=(by rw[Ab L]at hr;exact hr);clear hr z L;go_wp2_with fail;go_ret;rw[HF.out];exact⟨rfl,Q.out,fun h=>absurd h ip⟩
   ·have g1:=ig ((ck:Int)<m);have au:=ig (ck<m);have HF:Hid (R=0):=(by rw[Aa L]at hr;exact hr);have q4:=y.out.cell 4;have q5:=y.out.cell 5;rw[KM nj]at q4 q5;generalize cs[4]=o4 at q4;generalize cs[5]=o5 at q5;have f4:=y.out.frozen 4;have f5:=y.out.frozen 5;have ab:=hid (y.out.set 4 (.slice At ct.length nt));have N:=hid (BK (p:=⟨gb,4,none⟩) af.out (gZ af.out y.out ai) (.slice At ct.length nt));have M:=hid (BK (p:=⟨gb,4,none⟩) ag.out (gZ ag.out y.out al) (.slice At ct.length nt));have av:=hid (ab.out.set 5 (.slice Al cl.length nl));have ah:=hid (BK (p:=⟨gb,5,none⟩) N.out (gZ N.out ab.out ai) (.slice Al cl.length nl));have aj:=hid (BK (p:=⟨gb,5,none⟩) M.out (gZ M.out ab.out al) (.slice Al cl.length nl));clear hr z L;go_wp2_with fail;go_ret;rw[HF.out];exact⟨rfl,(Q.out.set (fun h=>h.2 rfl) _).set (fun h=>h.2 rfl) _,fun _=>⟨_,_,av.out,ah.out,aj.out⟩⟩
  ·have gE:(aa != 0)=true:=sK;have HF:Hid (R=aa):=(by have h:=z.out;rw[Ab i]at h;exact h);have U:=hid i;clear i z;go_wp2_with fail;go_ret;rw[HF.out];exact⟨rfl,Q.out,fun h=>absurd h U.out⟩
 ·have gE:(ce != 0)=true:=by simpa using E
  have HF:Hid (R=ce):=by have h:=HR.out;rw[Ab E]at h;exact h
  have U:=hid E;clear E HR j J DR D0;go_wp2_with fail;go_ret;rw[HF.out];exact⟨rfl,am.out,fun h=>absurd h U.out⟩
end Go.Proofs.YtfgdoknipbpfhaaGreatDoor
