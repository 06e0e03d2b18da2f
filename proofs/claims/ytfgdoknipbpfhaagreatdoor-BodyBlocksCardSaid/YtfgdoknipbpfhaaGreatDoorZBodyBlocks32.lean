/- slices.Repeat of one -/
import Derived.Test.YtfgdoknipbpfhaaGreatDoorZBodyBlocks22
import Derived.Lib.Zigzag
import Derived.Laws.CopyOwn
namespace Go.Proofs.YtfgdoknipbpfhaaGreatDoor
open Go.Proofs.Tryz
open Go.Lib (hid)
set_option maxHeartbeats 4000000
set_option maxRecDepth 100000
variable{base c g m n:Nat}{a b w w':World}{e:TypeId}{A:Option Addr}{ls:List Nat}
namespace Recs
open Go.RowKit Mem Own Canon NumPut
open Crc (Fy)
def GA(z:Nat):Nat:=if z % 2=1 then 18446744073709551615-z / 2 else z / 2
theorem W9{z:Nat}(h:z<18446744073709551616):GA z<18446744073709551616:=by unfold GA;split<;>omega
theorem WL(w:World)(z:Nat)(hz:z<18446744073709551616):
 Calls prog 242 #[.int .u64 z] w fun e w'=>e= .returned (.int .u64 (GA z:Nat))/\w'=w:=by
 obtain⟨y,hy⟩:=ii (GA z);rw[<-hy];unfold GA at hy;have ha:bits .and .u64 (z:Int) 1=((z % 2:Nat):Int):=by have h:=bits_and_u64_nat z 1 hz mw;rw[Nat.and_one_is_mod]at h;exact h
 have e:bits .xor .u64 ((z:Int) / 2) (IntKind.u64.wrap (-(bits .and .u64 (z:Int) 1)))=(y:Int):=by
  rw[ha];by_cases h:z % 2=1
  ·rw[Ab h]at hy;have e2:IntKind.u64.wrap (-((z % 2:Nat):Int))=((2 ^ 64-1:Nat):Int):=(by rw[Bq,h];omega);rw[e2,show(z:Int) / 2=((z / 2:Nat):Int) by omega,bits_xor_u64_nat _ _ mw ip,Nat.xor_comm,Lib.xor_ones64 _ mw];omega
  ·rw[Aa h]at hy;have e2:IntKind.u64.wrap (-((z % 2:Nat):Int))=((0:Nat):Int):=m9;rw[e2,show(z:Int) / 2=((z / 2:Nat):Int) by omega,bits_xor_u64_nat _ _ mw ip,Nat.xor_zero];omega
 have HE:=hid e;clear hy e ha;go_enter func242,ntmps242;go_wp2_with fail;go_ret;exact⟨Hy HE.out,rfl⟩
theorem fI(w:World)(k:Nat)(hk:k<=100000):
 Calls prog 327 #[.int .u64 1, .int .u64 k] w fun e w'=>e= .returned (.tuple #[.int .u64 0, .int .u64 k])/\w'=w:=by
 have a1:bits .and .u64 (1:Int) 4294967295=1:=ip
 have a0:bits .and .u64 (0:Int) 4294967295=0:=ip
 have ak:bits .and .u64 (k:Int) 4294967295=(k:Int):=by have h:=bits_and_u64_nat k 4294967295 mw mw;rw[show 4294967295=2 ^ 32-1 from rfl,Nl,Nat.mod_eq_of_lt mw]at h;exact h
 have sk:(k:Int) / 4294967296=0:=mw
 have wk:IntKind.u64.wrap (k:Int)=(k:Int):=m9
 go_enter func327,ntmps327;go_wp2_with fail;go_ret2;exact⟨rfl,rfl⟩
theorem Wq(w:World)(k:Nat)(hk:k<=100000):
 Calls prog 293 #[.int .u64 1, .int .u64 k] w fun e w'=>e= .returned (.tuple #[.int .u64 0, .int .u64 k])/\w'=w:=by
 have D:=hid (fI w k hk);go_enter func293,ntmps293;go_wp2_with fail;refine D.out.mono ?_;rintro e w1 ⟨rfl,rfl⟩;go_wp2_with fail;go_ret2;exact⟨rfl,rfl⟩
def EI(x n k:Nat):List Value:=List.replicate n (.int .u8 (x:Nat))++List.replicate (k-n) (.int .u8 0)
theorem TH{x k:Nat}(h:n<=k):(EI x n k).length=k:=by simp[EI];omega
theorem d6(x k:Nat):madeCells #[.int .u8 0] k=(EI x 0 k).toArray:=by
 apply Array.ext_getElem?
 intro i;by_cases h:i<k
 ·simp[EI,madeCells,h,Nat.mod_one]
 ·simp[EI,madeCells,h]
theorem Tx(x n m k:Nat):splice (EI x n k) n (List.replicate m (.int .u8 (x:Nat)))=EI x (n+m) k:=by
 unfold splice EI;have e1:(List.replicate n (Value.int .u8 (x:Nat))++List.replicate (k-n) (Value.int .u8 0)).take n=List.replicate n (Value.int .u8 (x:Nat)):=by rw[List.take_append_of_le_length oK];simp
 have e2:(List.replicate n (Value.int .u8 (x:Nat))++List.replicate (k-n) (Value.int .u8 0)).drop (n+m)=List.replicate (k-(n+m)) (Value.int .u8 0):=by rw[List.drop_append];simp;omega
 rw[Di,e1,e2,<-AE,List.replicate_append_replicate]
theorem dA(x k:Nat):EI x k k=cZ .u8 (List.replicate k x):=by simp[EI,cZ]
theorem P3{i:Nat}{a v:Value}(h:(List.replicate m a)[i]? =some v):i<m/\v=a:=by obtain⟨hj,hv⟩:=Cv.1 h;rw[Di]at hj;rw[List.getElem_replicate]at hv;exact⟨hj,hv.symm⟩
theorem Yd:(prog.info? 5).map (fun i=>(i.zero,i.size,i.bytes))=some (some (.int .u8 0),1,1):=mr
theorem XQ(n:Nat)(hn:n<=8388608)(w:World):(Instr.makeSlice 28 (.int .i64 (n:Int)) (.int .i64 (n:Int))).run prog w=
 .ok (.slice (some ⟨w,0,none⟩) n n) (w.alloc (.cells (madeCells #[.int .u8 0] n) 5)):=by
 obtain⟨i0,hi,y,j,i⟩:=info_parts Yd;have h:=run_make (P:=prog) w 28 5 i0 (.int .u8 0) underlying28 hi y .i64 .i64 (n:Int) (n:Int) mw (Int.le_refl _) nS mw;simp only[Int.toNat_natCast]at h;simpa[j,Value.cells]using h
theorem QQ:(prog.info? 5).map (·.size)=some 1:=mr
theorem Yo(w:World)(g c x k:Nat)(hk:k<=100000)(hx:Blk w g 5 #[.int .u8 (x:Nat)]):
 Calls prog 244 #[.slice (some ⟨g,0,none⟩) 1 c, .int .i64 (k:Nat)] w fun e w'=>∃v,e= .returned v/\w'.ownsRow w 5 1 v k (cZ .u8 (List.replicate k x))/\Below w w w':=by
 have D:=hid (Wq w k hk);have hm:=XQ k mw;have aa:=ig ((k:Int)<0)
 have Z:=ig ((9223372036854775807:Int)<k)
 have z:=ig (9223372036854775807<k)
 have wk:IntKind.u64.wrap (k:Int)=(k:Int):=m9
 have wi:IntKind.i64.wrap (k:Int)=(k:Int):=Aq _ mw;have c0:=hx.ia 0;have hg:=hx.lt;have ag:=hid c0;clear hx;rw[d6 x k]at hm;go_enter func244,ntmps244;go_wp2_with fail;refine D.out.mono ?_;rintro e w1 ⟨rfl,rfl⟩;obtain⟨m,i⟩:=ii (Nat.min 1 k);have af:m<=k:=by rw[i];exact Nat.min_le_right _ _
 have al:m<=1:=by rw[i];exact Nat.min_le_left _ _
 have HM:=hid i;have G:Hid (0<k->0<m):=fun h=>by rw[i];exact Nat.lt_min.2 ⟨mw,h⟩
 clear i;go_wp2_with((with_reducible show wpList _ _ _ (⟨some 33,_,_,_,_,_⟩ :: _) _ _);refine wpList_copy_splice rfl (.tmp 31) (.tmp 32) 28 28 rfl 5 underlying28 QQ (some ⟨w1,0,none⟩) (some ⟨g,0,none⟩) k k 1 c mz mz w1.heap.size 0 (EI x 0 k) 5 (heap_alloc_new w1 _) (List.replicate m (.int .u8 (x:Nat))) (by rw[Di];exact HM.out) (fun _=>⟨rfl,_,rfl,fun j v hv=>by obtain⟨hj,rfl⟩:=P3 hv;obtain rfl:j=0:=mw;exact(World.cell?_alloc_lt w1 _ ⟨g,0,none⟩ hg).trans ag.out⟩) (by rw[Di,TH (Cr k)];omega) (by intro v hv;rw[(List.mem_replicate.1 hv).2];rfl) w1.heap.size w1 (aZ (Ag _ _)) (Ak _) ?_;intro w2 y E);have L:=hid E;rw[Tx]at y;rw[Cb]at y;have Q:Hid (0<k->0<m):=G.out;clear E c0 hm D HM G Z z aa wk wi;generalize hb:w1.heap.size=b at *;have U:=hid hb;clear hb;go_loopw [8] (fun nv wr=>∃q:Nat,q<=k/\nv= .int .i64 q/\Hid (0<k->0<q)/\Hid (wr.heap[b]? =some (.cells (EI x q k).toArray 5 (0,0)))/\Hid (Below b w1 wr)) (fun nv _=>k-(intOf nv).toNat)
 case atStart=>exact⟨m,af,rfl,Q.out,y.out,L.out⟩
 case round=>
  obtain⟨q,hq,rfl,HQ,HG,HB⟩:=hrel;clear y L Q;by_cases an:q<k
  ·have g1:=ic ((q:Int)<k);have ak:=ic (q<k);have ac:0<q:=HQ.out mw;have M:AQ (some ⟨b,0,none⟩) q k 1=some ⟨b,q,none⟩:=(by unfold AQ;rw[Aa mw];show some (Addr.add ⟨b,0,none⟩ (q*1))=_;rw[FY,Cb,CM]);have aj:=fun wx=>FU (P:=prog) (t:=28) (s:=1) underlying28 (fun _=>by kernel_rfl) (some ⟨b,0,none⟩) k k .i64 (q:Int) q rfl hq wx;rw[M]at aj;have am:=fun wx=>Fy (P:=prog) (t:=28) (s:=1) underlying28 (fun _=>by kernel_rfl) (some ⟨b,0,none⟩) k k .i64 (q:Int) q rfl hq (by intro a ha;injection ha with ha;subst ha;exact FY _ _ _) wx;obtain⟨d,hd⟩:=ii (Nat.min q (k-q));have J:q+d<=k/\0<d/\d<=q:=(by have h1:d<=k-q:=(by rw[hd];exact Nat.min_le_right _ _);have h2:d<=q:=(by rw[hd];exact Nat.min_le_left _ _);have h3:0<d:=(by rw[hd];exact Nat.lt_min.2 ⟨ac,mw⟩);omega);have S1:Hid (IntKind.i64.wrap ((q:Int)+(d:Int))=((q+d:Nat):Int)):=(by show _=_;rw[Aq _ mw];omega);have S2:Hid (wrap64 ((q:Int)+(d:Int))=((q+d:Nat):Int)):=(by show _=_;rw[IU _ ⟨mw,mw⟩];omega);have HD:=hid hd;have Y:Hid (∀j v,(List.replicate d (Value.int .u8 (x:Nat)))[j]? =some v->wr.cell? (Addr.add ⟨b,0,none⟩ j)=some v):=fun j v hv=>by obtain⟨hj,rfl⟩:=P3 hv;have ae:j<q:=mw;rw[FY,Cb,(show Blk wr b _ _ from HG.out).cell j];simp[EI,List.getElem?_append,ae]
   clear hd M;have s1:=S1.out;have s2:=S2.out;go_wp2_with fail;go_region_law((refine step_copy_splice rfl (.tmp 41) (.tmp 44) 28 28 rfl 5 underlying28 QQ (some ⟨b,q,none⟩) (some ⟨b,0,none⟩) (k-q) (k-q) q k (by go_simp) (by go_simp) b q (EI x q k) 5 HG.out (List.replicate d (.int .u8 (x:Nat))) (by rw[Di];exact HD.out) (fun _=>⟨rfl,_,rfl,Y.out⟩) (by rw[Di,TH hq];exact J.1) (by intro v hv;rw[(List.mem_replicate.1 hv).2];rfl) b w1 HB.out.drew (Ak _) ?_);intro w4 ab N)
   all_goals
    have ai:Hid (w4.heap[b]? =some (.cells (EI x (q+d) k).toArray 5 (0,0))):=(by have h:=ab.out;rw[Tx]at h;exact h);have ah:=hid N;clear ab N
    go_simp
    go_wp2_with fail;go_roundw
    case measure=>exact jo
    case rel=>go_light;exact⟨q+d,J.1,iu,fun _=>mw,ai.out,ah.out⟩
  ·obtain rfl:q=k:=by omega
   have g1:=ig ((q:Int)<q);go_wp2_with fail;go_ret;refine⟨_,rfl,⟨oW, .inr ⟨b,q,(EI x q q).toArray,rfl,?_,HG.out,Ak _,pm,by simp[EI],?_⟩⟩,?_⟩
   ·rw[<-U.out];exact Ak _
   ·rw[CM,<-dA];exact BQ (by simp[EI])
   ·rw[<-U.out]at HB;exact HB.out
end Recs
namespace Recs
open Go.RowKit Mem Own Canon NumPut Nums
def FD:Nat->List Nat->Nat->Nat->List Nat->List Nat×Nat×Int
 |0,_,at_,_,acc=>(acc,at_,0)
 |k+1,bs,at_,was,acc=>if Im bs at_ 0≠0 then([],Ip bs at_ 0,Im bs at_ 0)else FD k bs (Ip bs at_ 0) ((was+GA (G5 bs at_ 0)) % 18446744073709551616) (acc++ [(was+GA (G5 bs at_ 0)) % 18446744073709551616])
theorem Ja{K K':Nat->Prop}(h:Kept K a b)(hi:∀x,K' x->K x):Kept K' a b:=⟨h.os,h.tape,h.output,h.size,fun x hx=>h.block x (hi x hx)⟩
theorem Ny{B:Nat}{c:World}(h:Kept (fun x=>x<B/\x≠g) a b)(hB:B<=b.heap.size)(k:Kept (By g b) b c):Kept (fun x=>x<B/\x≠g) a c:=h.trans (Ja k fun x hx=>⟨mg,hx.2⟩)
theorem MD{s:Nat}{v:Value}{xs:List Value}(h:w.ownsRow base e s v n xs)(hg:g<base)(k:Kept (By g w) w w'):w'.ownsRow base e s v n xs:=
 eZ h fun x hx=>k.block x ⟨(Aj h x hx).2,by have:=(Aj h x hx).1;omega⟩
theorem My{b:Nat}{t:TypeId}{cs:Array Value}(h:Blk w b t cs)(hg:b≠g)(k:Kept (By g w) w w'):Blk w' b t cs:=(k.block b ⟨h.lt,hg⟩).trans h
theorem J9{k:IntKind}(h:w.ownsRow base e 1 (.slice A n c) n (cZ k ls)):Src w A n c 1 (cZ k ls):=by
 obtain⟨h0,h1⟩:=h;refine⟨h0,?_⟩;rcases h1 with ⟨hv,_⟩|⟨g,y,cur,hv,_,hh,_,_,_,i⟩
 ·injection hv with e1 e2 e3;exact .inl ⟨e1,e2,e3⟩
 ·injection hv with e1 e2 e3;refine .inr ⟨⟨g,0,none⟩,e1,fun j u hu=> ?_⟩;rw[FY,Cb,Blk.cell hh];rw[<-i,Gd]at hu;split at hu
  ·simpa using hu
  ·cases hu
theorem JI{row:Option Nat}{at_:Nat}{bs:List Nat}{er:Int}(h:Cur w g base bs A c at_ er)(hg:w.grownBy w' row)(B:Nat)(j:g<B)(i:∀x,(Value.slice A bs.length c).ownBlock=some x->x<B)(hr:∀x,row=some x->B<=x):Cur w' g base bs A c at_ er:=
 ⟨h.blk.grown hg (fun e=>by have:=hr g e.symm;omega),eZ h.own (fun x hx=>hg.block x (Aj h.own x hx).2 (fun e=>by have:=i x hx;have:=hr x e.symm;omega)),h.le,h.lo⟩
def lenS:Value->Nat
 | .slice _ n _=>n
 |_=>0
theorem bO:(prog.info? 41).map (fun i=>(i.zero,i.size,i.bytes))=some (some (.int .u64 0),1,8):=mr
def RC(w:World)(n g base:Nat)(bs:List Nat)(A:Option Addr)(c:Nat)(T:List Nat×Nat×Int)(e:Ending)(w':World):Prop:=
 ∃v acc,e= .returned v/\acc.length<=n/\w'.ownsRow w 41 1 v acc.length (cZ .u64 acc)/\Cur w' g base bs A c T.2.1 T.2.2/\Kept (By g w) w w'/\(T.2.2=0->acc=T.1)
theorem aR(w:World)(g base:Nat)(bs:List Nat)(A:Option Addr)(c at_ n:Nat)(aa:bs.length<=100000)(h8:∀x∈bs,x<=255)(hn:n<=20000)(h:Cur w g base bs A c at_ 0):
 Calls prog 193 #[.agg #[.pointer (some ⟨g,0,none⟩)], .int .i64 (n:Nat)] w (RC w n g base bs A c (FD n bs at_ 0 [])):=by
 obtain⟨j0,al,a0,ar,a6⟩:=info_parts bO;obtain⟨T,hT⟩:=ii (FD n bs at_ 0 []);rw[<-hT];have ah:Hid (FD (n-0) bs at_ 0 []=T):=hT.symm;have H8:=hid h8;have au:=hid aa;have bf:=h.blk.lt;have H:=hid h;have an:Hid (∀y,(Value.slice A bs.length c).ownBlock=some y->y<w.heap.size):=fun y hy=>(Aj h.own y hy).2;unfold RC;clear h h8 hT aa;go_enter func193,ntmps193;go_wp2_with fail;have aj:=H.out.step (w':=w.alloc (.cells #[.pointer (some ⟨g,0,none⟩)] 249)) (aZ (Ag _ _));have Y:Blk (w.alloc (.cells #[.pointer (some ⟨g,0,none⟩)] 249)) w 249 #[.pointer (some ⟨g,0,none⟩)]:=Blk.made _ _ _;have N:Kept (By g w) w (w.alloc (.cells #[.pointer (some ⟨g,0,none⟩)] 249)):=Kept.of_below (B:=w.heap.size) (aZ (Ag _ _)) (fun x hx=>hx.1);generalize w.alloc (.cells #[.pointer (some ⟨g,0,none⟩)] 249)=w1 at *;have z1:=N.size;have bb:=Y.lt;have av:=hid aj;have az:=hid Y;have ag:=hid N;have aq:w.heap.size≠g:=mw
 clear aj Y N H;go_loopw [5,6] (fun v uv wr=>∃ (a1:Nat) (er:Int) (z p:Nat) (j:List Nat),p<=n/\z<18446744073709551616/\uv= .int .u64 z/\Hid (j.length=p)/\Hid (Cur wr g base bs A c a1 er)/\Hid (wr.ownsRow w1 41 1 v p (cZ .u64 j))/\Hid (Kept (fun x=>x<w1.heap.size/\x≠g) w1 wr)/\Hid (er=0->FD (n-p) bs a1 z j=T)/\Hid (er≠0->T=([],a1,er))) (fun v _ _=>n-lenS v)
 case atStart=>exact⟨at_,0,0,0,[],mw,mw,rfl,rfl,av.out,AI _ _ _ _,Kept.refl _ _,fun _=>ah.out,fun h=>absurd rfl h⟩
 case round=>
  obtain⟨a1,er,z,p,j,hp,bc,rfl,HP,HC,HO,HK,HT,HE⟩:=hrel;have zk:=HK.out.size;obtain⟨va,vc,rfl⟩:=bZ HO.out;have xb:Blk wr w 249 #[.pointer (some ⟨g,0,none⟩)]:=(HK.out.block _ ⟨bb,aq⟩).trans az.out;have x0:=xb.ia 0;have XB:=hid xb;clear xb ah;by_cases bh:p<n
  ·have g1:=ic ((p:Int)<n);have bg:=ic (p<n);have DE:=hid (Dl wr g base bs A c a1 er HC.out);by_cases he:er=0
   ·subst he;have G:=HT.out rfl;rw[show n-p=(n-(p+1))+1 by omega,FD]at G;have L:G5 bs a1 0<18446744073709551616:=(by have a9:∀x∈bs.drop a1,x<=255:=fun x hx=>H8.out x (BY hx);have:=(J1 (bs.drop a1) 0 0 a9 mw oK).1;unfold G5;rw[Aa oK];exact this);have D1:=hid (fun wx hx=>num_any wx g base bs A c a1 0 au.out H8.out hx);generalize G5 bs a1 0=v1 at *;generalize Ip bs a1 0=a2 at *;generalize Im bs a1 0=e2 at *;have bd:=W9 L;have D2:=hid (fun wx=>WL wx v1 L);generalize GA v1=y1 at *;have s1:IntKind.u64.wrap ((z:Int)+(y1:Int))=(((z+y1) % 18446744073709551616:Nat):Int):=m9;have ax:(z+y1) % 18446744073709551616<18446744073709551616:=Nat.mod_lt _ mw;generalize (z+y1) % 18446744073709551616=i at *;have ak:Hid ((e2=0->FD (n-(p+1)) bs a2 i (j++ [i])=T)/\(e2≠0->T=([],a2,e2))):=⟨fun h=>by rw[Aa oY]at G;exact G,fun h=>by rw[Ab h]at G;exact G.symm⟩;clear G HT HE;go_wp2_with fail;refine DE.out.mono ?_;rintro e w2 ⟨rfl,rfl⟩;go_wp2_with fail;refine(D1.out _ HC.out).mono ?_;rintro e w3 ⟨rfl,ai,J⟩;have z3:=J.size;have a5:=hid ai;have af:Hid (w3.ownsRow w1 41 1 (.slice va p vc) p (cZ .u64 j)):=MD HO.out mw J;have ay:Hid (Kept (fun x=>x<w1.heap.size/\x≠g) w1 w3):=Ny HK.out zk J;clear ai J x0 HC HO HK DE D1 XB;go_wp2_with fail;refine(D2.out _).mono ?_;rintro e w4 ⟨rfl,rfl⟩;go_wp2_with(at_builtin;refine iZ rfl (.tmp 23) (.tmp 25) 98 rfl w1 41 j0 _ 1 8 underlying98 al a0 ar a6 rfl ip _ _ _ mz (af.out.alloc _) _ 1 1 [.int .u64 (i:Nat)] mz (Src.of_blk (Blk.made_at _ _ _ oK) 1 1 1 rfl) mj pm mw oT ?_;intro v5 w5 E M ac;obtain⟨A5,c5,rfl⟩:=bZ E);have U:=aZ (o:= .cells #[.int .u64 (i:Nat)] 41) (Ag w4 w4);have ae:=a5.out.step U;have Z:Kept (fun x=>x<w1.heap.size/\x≠g) w1 (w4.alloc (.cells #[.int .u64 (i:Nat)] 41)):=ay.out.trans (Kept.of_below U (fun x hx=>by have:=hx.1;omega));have be:=Z.size;have Q:∀y,(Value.slice va p vc).ownBlock=some y->w1.heap.size<=y:=fun y hy=>(Aj af.out y hy).1;have ab:Cur w5 g base bs A c a2 e2:=JI ae M w1 mw (fun y hy=>by have:=an.out y hy;omega) Q;have aw:Hid (Kept (fun x=>x<w1.heap.size/\x≠g) w1 w5):=Z.grown M (fun y hy=>by have:=hy.1;omega) (fun y hy hh=>by have:=Q y hy;have:=hh.1;omega);have a3:=hid ab;have ba:Hid (w5.ownsRow w1 41 1 (.slice A5 (p+1) c5) (p+1) (cZ .u64 (j++ [i]))):=(by show World.ownsRow _ _ _ _ _ _ _;rw[show cZ .u64 (j++ [i])=cZ .u64 j++ [.int .u64 (i:Nat)] by simp[cZ]];exact E);clear E M ac U ae Z ab Q;go_roundw
    case measure=>go_light;simp[lenS];omega
    case rel=>go_light;exact⟨a2,e2,i,p+1,j++ [i],mw,ax,iu,by show _=_;rw[Ae,HP.out];rfl,a3.out,ba.out,aw.out,ak.out.1,ak.out.2⟩
   ·have g2:(er==0)=false:=ph;have am:=hid (HE.out he);have a4:=hid he;clear he HT HE;go_wp2_with fail;refine DE.out.mono ?_;rintro e w2 ⟨rfl,rfl⟩;go_wp2_with fail;go_ret;rw[am.out];refine⟨_,j,rfl,nw,nx,HC.out,ag.out.trans (Ja HK.out fun x hx=>⟨mg,hx.2⟩),fun h=>absurd h a4.out⟩
  ·obtain rfl:p=n:=by omega
   have HF:Hid (a1=T.2.1/\er=T.2.2/\(T.2.2=0->j=T.1)):=by
    by_cases he:er=0
    ·subst he;have h:=HT.out rfl;rw[Gx,FD]at h;rw[<-h];exact⟨rfl,rfl,fun _=>rfl⟩
    ·have h:=HE.out he;rw[h];exact⟨rfl,rfl,fun h0=>absurd h0 he⟩
   have g1:=ig ((p:Int)<p);clear HT HE;go_wp2_with fail;go_ret;refine⟨_,j,rfl,nw,nx,by rw[<-HF.out.1,<-HF.out.2.1];exact HC.out,ag.out.trans (Ja HK.out fun x hx=>⟨mg,hx.2⟩),HF.out.2.2⟩
def Hx(m:Nat)(bs:List Nat)(at_:Nat):Nat×Nat×Nat×Int:=
 (Gl bs at_ 0,AY m bs (takeA bs at_ 0 1) (BK bs at_ 0 1),zZ m bs (takeA bs at_ 0 1) (BK bs at_ 0 1),AJ m bs (takeA bs at_ 0 1) (BK bs at_ 0 1))
def Lg(acc:List Nat)(o:Nat×Nat×Nat×Int):Int:=if o.2.2.2≠0 then o.2.2.2 else if o.2.1=0∨acc.getLast?=some o.1 then 2 else 0
def EW:Nat->Nat->List Nat->Nat->List Nat->List Nat×Nat×Int
 |0,_,_,at_,acc=>(acc,at_,0)
 |f+1,n,bs,at_,acc=>if n<=acc.length then(acc,at_,0)else if Lg acc (Hx (n-acc.length) bs at_)≠0 then([],(Hx (n-acc.length) bs at_).2.2.1,Lg acc (Hx (n-acc.length) bs at_))else
  EW f n bs (Hx (n-acc.length) bs at_).2.2.1 (acc++List.replicate (Hx (n-acc.length) bs at_).2.1 (Hx (n-acc.length) bs at_).1)
theorem Xw{bs:List Nat}(h8:∀x∈bs,x<=255)(at_:Nat)(er:Int)(h:AJ m bs at_ er≠0):AY m bs at_ er=0:=by
 unfold AJ at h;unfold AY;by_cases he:er=0
 ·rw[Aa (by simp[he])]at h;rw[Aa (by simp[he])];exact((G8 m (bs.drop at_) fun x hx=>h8 x (BY hx)).2.2.2.1 h).1
 ·rw[Ab he]
theorem Tl{f:Nat}{bs:List Nat}{at_:Nat}{i:List Nat}(h:n<=i.length):EW f n bs at_ i=(i,at_,0):=by
 cases f with
 |zero=>rfl
 |succ f=>exact Ab h
def FO(w:World)(g:Nat):Int:=intOf ((w.cell? ⟨g,2,none⟩).getD (.int .i64 0))
theorem Xc:(prog.info? 5).map (fun i=>(i.zero,i.size,i.bytes))=some (some (.int .u8 0),1,1):=mr
def U8(w:World)(n g base:Nat)(bs:List Nat)(A:Option Addr)(c:Nat)(T:List Nat×Nat×Int)(e:Ending)(w':World):Prop:=
 ∃v acc,e= .returned v/\acc.length<=n/\w'.ownsRow w 5 1 v acc.length (cZ .u8 acc)/\Cur w' g base bs A c T.2.1 T.2.2/\Kept (By g w) w w'/\(T.2.2=0->acc=T.1)
theorem XZ(w:World)(g base:Nat)(bs:List Nat)(A:Option Addr)(c at_ n:Nat)(ar:Int)(bu:bs.length<=100000)(h8:∀x∈bs,x<=255)(hn:n<=20000)(h:Cur w g base bs A c at_ ar):
 Calls prog 194 #[.agg #[.pointer (some ⟨g,0,none⟩)], .int .i64 (n:Nat)] w (U8 w n g base bs A c (if ar≠0 then([],at_,ar)else EW n n bs at_ [])):=by
 obtain⟨j0,a9,bg,be,bi⟩:=info_parts Xc;obtain⟨T,hT⟩:=ii (if ar≠0 then([],at_,ar)else EW n n bs at_ [])
 rw[<-hT];have bt:Hid ((ar=0->∃f,n<=f+0/\EW f n bs at_ []=T)/\(ar≠0->T=([],at_,ar))):=⟨fun h=>⟨n,Ak _,by rw[hT,Aa oY]⟩,fun h=>by rw[hT,Ab h]⟩;have H8:=hid h8;have bC:=hid bu;have cl:=h.blk.lt;have H:=hid h;have bb:Hid (∀y,(Value.slice A bs.length c).ownBlock=some y->y<w.heap.size):=fun y hy=>(Aj h.own y hy).2;unfold U8;clear h h8 hT bu;go_enter func194,ntmps194;go_wp2_with fail;have b7:=H.out.step (w':=w.alloc (.cells #[.pointer (some ⟨g,0,none⟩)] 249)) (aZ (Ag _ _));have bp:Blk (w.alloc (.cells #[.pointer (some ⟨g,0,none⟩)] 249)) w 249 #[.pointer (some ⟨g,0,none⟩)]:=Blk.made _ _ _;have bm:Kept (By g w) w (w.alloc (.cells #[.pointer (some ⟨g,0,none⟩)] 249)):=Kept.of_below (B:=w.heap.size) (aZ (Ag _ _)) (fun x hx=>hx.1);generalize w.alloc (.cells #[.pointer (some ⟨g,0,none⟩)] 249)=w1 at *;have z1:=bm.size;have cf:=bp.lt;have b8:=hid b7;have ca:=hid bp;have b5:=hid bm;have bl:w.heap.size≠g:=mw
 clear b7 bp bm H;go_loopw [5] (fun v wr=>∃ (a1:Nat) (er:Int) (p:Nat) (j:List Nat),p<=n/\Hid (j.length=p)/\Hid (Cur wr g base bs A c a1 er)/\Hid (wr.ownsRow w1 5 1 v p (cZ .u8 j))/\Hid (Kept (fun x=>x<w1.heap.size/\x≠g) w1 wr)/\Hid (er=0->∃f,n<=f+p/\EW f n bs a1 j=T)/\Hid (er≠0->T=([],a1,er))) (fun v wr=>(n-lenS v)+if FO wr g=0 then 1 else 0)
 case atStart=>exact⟨at_,ar,0,[],mw,rfl,b8.out,AI _ _ _ _,Kept.refl _ _,bt.out.1,bt.out.2⟩
 case round=>
  obtain⟨a1,er,p,j,hp,HP,HC,HO,HK,HT,HE⟩:=hrel;have zk:=HK.out.size;obtain⟨va,vc,rfl⟩:=bZ HO.out;have xb:Blk wr w 249 #[.pointer (some ⟨g,0,none⟩)]:=(HK.out.block _ ⟨cf,bl⟩).trans ca.out;have x0:=xb.ia 0;have XB:=hid xb;have ba:Hid (FO wr g=er):=by show _=_;unfold FO;rw[HC.out.cells.2.2];rfl
  clear xb bt;by_cases ct:p<n
  ·have g1:=ic ((p:Int)<n);have co:=ic (p<n);have DE:=hid (Dl wr g base bs A c a1 er HC.out);by_cases he:er=0
   ·subst he;obtain⟨f,hf,a6⟩:=HT.out rfl;obtain⟨f,rfl⟩:∃f',f=f'+1:=⟨f-1,mw⟩;rw[EW,Aa (by rw[HP.out];omega),HP.out]at a6;obtain⟨m,hm⟩:=ii (n-p);have sm:IntKind.i64.wrap ((n:Int)-(p:Int))=(m:Int):=m8;rw[<-hm]at a6;have cg:=hid hm;have cr:p+m<=n/\m<=20000:=mw;clear hm;have D1:=hid (fun wx hx=>Sm wx g base bs A c a1 0 bC.out hx);have ci:AY m bs (takeA bs a1 0 1) (BK bs a1 0 1)<=m:=FQ H8.out _ _;have cp:Hid (AJ m bs (takeA bs a1 0 1) (BK bs a1 0 1)≠0->AY m bs (takeA bs a1 0 1) (BK bs a1 0 1)=0):=Xw H8.out _ _;unfold Lg Hx at a6;simp only at a6;have D2:=hid (fun wx hx=>ID wx g base bs A c (takeA bs a1 0 1) (BK bs a1 0 1) m bC.out H8.out mw hx);generalize Gl bs a1 0=x at *;generalize takeA bs a1 0 1=b1 at *;generalize BK bs a1 0 1=d1 at *;generalize AY m bs b1 d1=k at *;generalize zZ m bs b1 d1=a2 at *;generalize AJ m bs b1 d1=e2 at *;have a3:k<=100000:=mw;have DR:=hid (fun wx gx cx y kk hkk hb=>Yo wx gx cx y kk hkk hb);have an:=hid a6;have HF:=hid hf;clear a6 HT HE hf;go_wp2_with fail;refine DE.out.mono ?_;rintro e w2 ⟨rfl,rfl⟩;go_wp2_with fail;refine(D1.out _ HC.out).mono ?_;rintro e w3 ⟨rfl,b6,bh⟩;have z3:=bh.size;have b3:=hid b6;have b4:Hid (w3.ownsRow w1 5 1 (.slice va p vc) p (cZ .u8 j)):=MD HO.out mw bh;have bS:Hid (Kept (fun x=>x<w1.heap.size/\x≠g) w1 w3):=Ny HK.out zk bh;have bn:=hid (My XB.out bl bh);have x3:=bn.out.ia 0;clear b6 bh x0 HC HO HK DE D1 XB;go_wp2_with fail;refine(D2.out _ b3.out).mono ?_;rintro e w4 ⟨rfl,bN,bj⟩;have z4:=bj.size;have ak:=hid bN;have ah:Hid (w4.ownsRow w1 5 1 (.slice va p vc) p (cZ .u8 j)):=MD b4.out mw bj;have al:Hid (Kept (fun x=>x<w1.heap.size/\x≠g) w1 w4):=Ny bS.out mw bj;have bk:=hid (My bn.out bl bj);have x4:=bk.out.ia 0;have cd:=hid (Dl w4 g base bs A c a2 e2 ak.out);clear bN bj x3 b3 b4 bS D2 bn;go_wp2_with fail;refine cd.out.mono ?_;rintro e w5 ⟨rfl,rfl⟩;by_cases a4:e2=0
    ·subst a4;have Z:=an.out;rw[Aa (show ¬((0:Int)≠0) from fun h=>h rfl)]at Z;by_cases a0:k=0
     ·have gk:((k:Int)==0)=true:=(by rw[a0];rfl);obtain⟨i,J⟩:=ii (FX 0 2);have ab:i=2:=J.trans (Ab rfl);have ai:Hid ((i=0->∃f',n<=f'+(p+k)/\EW f' n bs a2 (j++List.replicate k x)=T)/\(i≠0->T=([],a2,i))):=⟨fun h=>absurd (ab.symm.trans h) ip,fun _=>by rw[Ab (Or.inl a0),Ab ip]at Z;rw[ab];exact Z.symm⟩;have aw:Hid (n-(p+k)+(if i=0 then 1 else 0)<n-p+1):=(by show _<_;rw[Aa (by rw[ab];decide)];omega);have DF:=hid (GM w5 g base bs A c a2 0 2 ak.out);rw[<-J]at DF;clear Z ab J an a0;go_wp2_with fail;refine DF.out.mono ?_;rintro e w6 ⟨rfl,bd,a5⟩;have U:Hid (w6.ownsRow w1 5 1 _ p (cZ .u8 j)):=eZ ah.out (fun z hz=>a5.block z (by have:=(Aj ah.out z hz).1;omega));have M:Hid (Kept (fun x=>x<w1.heap.size/\x≠g) w1 w6):=al.out.trans (Ja a5 fun z hz=>hz.2);have af:=hid bd;clear ah al ak a5 bd DF bk x4 z4;obtain⟨w5,rfl⟩:=ii w6;have z5:=M.out.size;go_wp2_with fail;have bq:Blk (w5.alloc (.cells #[.int .u8 (x:Nat)] 5)) w5 5 #[.int .u8 (x:Nat)]:=Blk.made _ _ _;refine(DR.out _ _ _ x k a3 bq).mono ?_;rintro e w6 ⟨v6,rfl,Y,G⟩;obtain⟨A6,c6,rfl⟩:=bZ Y;have z6:=G.size;simp at z6;have aq:Hid (Src w6 A6 k c6 1 (cZ .u8 (List.replicate k x))):=J9 Y;have ag:Hid (w6.ownsRow w1 5 1 _ p (cZ .u8 j)):=eZ (U.out.alloc _) (fun y hy=>G.block y kz);have ac:Cur w6 g base bs A c a2 i:=af.out.step ((aZ (Ag _ _)).trans (G.mono oK));have aa:Hid (Kept (fun x=>x<w1.heap.size/\x≠g) w1 w6):=M.out.trans (Kept.of_below ((aZ (Ag _ _)).trans (G.mono oK)) (fun y hy=>by have:=hy.1;omega));have ax:=hid ac;clear Y G bq ac af U M DR;go_wp2_with(at_builtin;refine iZ rfl (.tmp 54) (.tmp 58) 28 rfl w1 5 j0 _ 1 1 underlying28 a9 bg be bi rfl ip _ _ _ mz ag.out _ _ _ _ mz aq.out (Ci _ _) pm mw mw ?_;intro v7 w7 E L ae);obtain⟨A7,c7,rfl⟩:=bZ E;have N:=fun(y:Nat) hy=>(Aj ag.out y hy).1;have z7:=aa.out.size;have Q:Cur w7 g base bs A c a2 i:=JI ax.out L w1 mw (fun y hy=>by have:=bb.out y hy;omega) N;have ay:Hid (Kept (fun x=>x<w1.heap.size/\x≠g) w1 w7):=aa.out.grown L (fun y hy=>by have:=hy.1;omega) (fun y hy hh=>by have:=N y hy;have:=hh.1;omega);have au:Hid (w7.ownsRow w1 5 1 (.slice A7 (p+k) c7) (p+k) (cZ .u8 (j++List.replicate k x))):=n9;have am:=hid Q;have av:Hid (FO w7 g=i):=oF;clear E L ae N Q;go_roundw
      case measure=>exact jn
      case rel=>exact iz
     ·have gk:((k:Int)==0)=false:=nc;have cv:(k==0)=false:=nc;by_cases b0:p=0
      ·have gp:=ig ((0:Int)<p);have b9:=ig (0<p);have bf:¬(k=0∨j.getLast?=some x):=fun h=>h.elim a0 (fun h=>by rw[Gf (HP.out.trans b0)]at h;cases h);obtain⟨i,J⟩:∃i:Int,i=0:=⟨_,rfl⟩;have ai:Hid ((i=0->∃f',n<=f'+(p+k)/\EW f' n bs a2 (j++List.replicate k x)=T)/\(i≠0->T=([],a2,i))):=⟨fun _=>⟨f,lk,by rw[Aa bf,Aa (show ¬((0:Int)≠0) from fun h=>h rfl)]at Z;exact Z⟩,fun h=>absurd J h⟩;have aw:Hid (n-(p+k)+(if i=0 then 1 else 0)<n-p+1):=(by show _<_;rw[Ab J];omega);have aj:Hid (Cur w5 g base bs A c a2 i):=(by rw[J];exact ak.out);clear Z J an a0 bf b0;have af:=aj;have U:=ah;have M:=al;clear ak ah al aj;have z5:=M.out.size;go_wp2_with fail;have bq:Blk (w5.alloc (.cells #[.int .u8 (x:Nat)] 5)) w5 5 #[.int .u8 (x:Nat)]:=Blk.made _ _ _;refine(DR.out _ _ _ x k a3 bq).mono ?_;rintro e w6 ⟨v6,rfl,Y,G⟩;obtain⟨A6,c6,rfl⟩:=bZ Y;have z6:=G.size;simp at z6;have aq:Hid (Src w6 A6 k c6 1 (cZ .u8 (List.replicate k x))):=J9 Y;have ag:Hid (w6.ownsRow w1 5 1 _ p (cZ .u8 j)):=eZ (U.out.alloc _) (fun y hy=>G.block y kz);have ac:Cur w6 g base bs A c a2 i:=af.out.step ((aZ (Ag _ _)).trans (G.mono oK));have aa:Hid (Kept (fun x=>x<w1.heap.size/\x≠g) w1 w6):=M.out.trans (Kept.of_below ((aZ (Ag _ _)).trans (G.mono oK)) (fun y hy=>by have:=hy.1;omega));have ax:=hid ac;clear Y G bq ac af U M DR;go_wp2_with(at_builtin;refine iZ rfl (.tmp 54) (.tmp 58) 28 rfl w1 5 j0 _ 1 1 underlying28 a9 bg be bi rfl ip _ _ _ mz ag.out _ _ _ _ mz aq.out (Ci _ _) pm mw mw ?_;intro v7 w7 E L ae);obtain⟨A7,c7,rfl⟩:=bZ E;have N:=fun(y:Nat) hy=>(Aj ag.out y hy).1;have z7:=aa.out.size;have Q:Cur w7 g base bs A c a2 i:=JI ax.out L w1 mw (fun y hy=>by have:=bb.out y hy;omega) N;have ay:Hid (Kept (fun x=>x<w1.heap.size/\x≠g) w1 w7):=aa.out.grown L (fun y hy=>by have:=hy.1;omega) (fun y hy hh=>by have:=N y hy;have:=hh.1;omega);have au:Hid (w7.ownsRow w1 5 1 (.slice A7 (p+k) c7) (p+k) (cZ .u8 (j++List.replicate k x))):=n9;have am:=hid Q;have av:Hid (FO w7 g=i):=oF;clear E L ae N Q;go_roundw
       case measure=>exact jn
       case rel=>exact iz
      ·obtain⟨gq,cq,ce,cj,_⟩:=ah.out.form mw;injection ce with e1 e2 e3;subst e1 e3;obtain⟨y,hy⟩:∃y,j[p-1]? =some y:=⟨_,Az lu⟩;have az:j.getLast?=some y:=by rw[List.getLast?_eq_getElem?,HP.out];exact hy
       have cy:w5.cell? ⟨gq,p-1,none⟩=some (.int .u8 (y:Nat)):=(by rw[ah.out.cellAt (p-1) mw];unfold cZ;rw[BG,hy];rfl);obtain⟨p1,bx⟩:=ii (p-1);rw[<-bx]at cy;have sp:IntKind.i64.wrap ((p:Int)-1)=(p1:Int):=m8;have gp:=ic ((0:Int)<p);have b9:=ic (0<p);have cu:(0:Int)<=(p1:Int):=mw;have cm:(p1:Int)<(p:Int):=mw;clear hy bx;by_cases bc:y=x
       ·have gx:((y:Int)==(x:Int))=true:=(by rw[bc];simp);rw[bc]at az;clear bc;obtain⟨i,J⟩:=ii (FX 0 2);have ab:i=2:=J.trans (Ab rfl);have ai:Hid ((i=0->∃f',n<=f'+(p+k)/\EW f' n bs a2 (j++List.replicate k x)=T)/\(i≠0->T=([],a2,i))):=⟨fun h=>absurd (ab.symm.trans h) ip,fun _=>by rw[Ab (Or.inr az),Ab ip]at Z;rw[ab];exact Z.symm⟩;have aw:Hid (n-(p+k)+(if i=0 then 1 else 0)<n-p+1):=(by show _<_;rw[Aa (by rw[ab];decide)];omega);have DF:=hid (GM w5 g base bs A c a2 0 2 ak.out);rw[<-J]at DF;clear Z ab J an az a0;go_wp2_with fail;refine DF.out.mono ?_;rintro e w6 ⟨rfl,bd,a5⟩;clear cy;have U:Hid (w6.ownsRow w1 5 1 _ p (cZ .u8 j)):=eZ ah.out (fun z hz=>a5.block z (by have:=(Aj ah.out z hz).1;omega));have M:Hid (Kept (fun x=>x<w1.heap.size/\x≠g) w1 w6):=al.out.trans (Ja a5 fun z hz=>hz.2);have af:=hid bd;clear ah al ak a5 bd DF bk x4 z4;obtain⟨w5,rfl⟩:=ii w6;have z5:=M.out.size;go_wp2_with fail;have bq:Blk (w5.alloc (.cells #[.int .u8 (x:Nat)] 5)) w5 5 #[.int .u8 (x:Nat)]:=Blk.made _ _ _;refine(DR.out _ _ _ x k a3 bq).mono ?_;rintro e w6 ⟨v6,rfl,Y,G⟩;obtain⟨A6,c6,rfl⟩:=bZ Y;have z6:=G.size;simp at z6;have aq:Hid (Src w6 A6 k c6 1 (cZ .u8 (List.replicate k x))):=J9 Y;have ag:Hid (w6.ownsRow w1 5 1 _ p (cZ .u8 j)):=eZ (U.out.alloc _) (fun y hy=>G.block y kz);have ac:Cur w6 g base bs A c a2 i:=af.out.step ((aZ (Ag _ _)).trans (G.mono oK));have aa:Hid (Kept (fun x=>x<w1.heap.size/\x≠g) w1 w6):=M.out.trans (Kept.of_below ((aZ (Ag _ _)).trans (G.mono oK)) (fun y hy=>by have:=hy.1;omega));have ax:=hid ac;clear Y G bq ac af U M DR;go_wp2_with(at_builtin;refine iZ rfl (.tmp 54) (.tmp 58) 28 rfl w1 5 j0 _ 1 1 underlying28 a9 bg be bi rfl ip _ _ _ mz ag.out _ _ _ _ mz aq.out (Ci _ _) pm mw mw ?_;intro v7 w7 E L ae);obtain⟨A7,c7,rfl⟩:=bZ E;have N:=fun(y:Nat) hy=>(Aj ag.out y hy).1;have z7:=aa.out.size;have Q:Cur w7 g base bs A c a2 i:=JI ax.out L w1 mw (fun y hy=>by have:=bb.out y hy;omega) N;have ay:Hid (Kept (fun x=>x<w1.heap.size/\x≠g) w1 w7):=aa.out.grown L (fun y hy=>by have:=hy.1;omega) (fun y hy hh=>by have:=N y hy;have:=hh.1;omega);have au:Hid (w7.ownsRow w1 5 1 (.slice A7 (p+k) c7) (p+k) (cZ .u8 (j++List.replicate k x))):=n9;have am:=hid Q;have av:Hid (FO w7 g=i):=oF;clear E L ae N Q;go_roundw
        case measure=>exact jn
        case rel=>exact iz
       ·have gx:((y:Int)==(x:Int))=false:=nc;obtain⟨i,J⟩:∃i:Int,i=0:=⟨_,rfl⟩;have bf:¬(k=0∨j.getLast?=some x):=fun h=>h.elim a0 (fun h=>by rw[az]at h;injection h with h;exact bc h);have ai:Hid ((i=0->∃f',n<=f'+(p+k)/\EW f' n bs a2 (j++List.replicate k x)=T)/\(i≠0->T=([],a2,i))):=⟨fun _=>⟨f,lk,by rw[Aa bf,Aa oK]at Z;exact Z⟩,fun h=>absurd J h⟩;have aw:Hid (n-(p+k)+(if i=0 then 1 else 0)<n-p+1):=(by show _<_;rw[Ab J];omega);have aj:Hid (Cur w5 g base bs A c a2 i):=(by rw[J];exact ak.out);clear Z J an az bf bc a0;have af:=aj;have U:=ah;have M:=al;clear ak ah al aj;have z5:=M.out.size;go_wp2_with fail;have bq:Blk (w5.alloc (.cells #[.int .u8 (x:Nat)] 5)) w5 5 #[.int .u8 (x:Nat)]:=Blk.made _ _ _;refine(DR.out _ _ _ x k a3 bq).mono ?_;rintro e w6 ⟨v6,rfl,Y,G⟩;obtain⟨A6,c6,rfl⟩:=bZ Y;have z6:=G.size;simp at z6;have aq:Hid (Src w6 A6 k c6 1 (cZ .u8 (List.replicate k x))):=J9 Y;have ag:Hid (w6.ownsRow w1 5 1 _ p (cZ .u8 j)):=eZ (U.out.alloc _) (fun y hy=>G.block y kz);have ac:Cur w6 g base bs A c a2 i:=af.out.step ((aZ (Ag _ _)).trans (G.mono oK));have aa:Hid (Kept (fun x=>x<w1.heap.size/\x≠g) w1 w6):=M.out.trans (Kept.of_below ((aZ (Ag _ _)).trans (G.mono oK)) (fun y hy=>by have:=hy.1;omega));have ax:=hid ac;clear Y G bq ac af U M DR;go_wp2_with(at_builtin;refine iZ rfl (.tmp 54) (.tmp 58) 28 rfl w1 5 j0 _ 1 1 underlying28 a9 bg be bi rfl ip _ _ _ mz ag.out _ _ _ _ mz aq.out (Ci _ _) pm mw mw ?_;intro v7 w7 E L ae);obtain⟨A7,c7,rfl⟩:=bZ E;have N:=fun(y:Nat) hy=>(Aj ag.out y hy).1;have z7:=aa.out.size;have Q:Cur w7 g base bs A c a2 i:=JI ax.out L w1 mw (fun y hy=>by have:=bb.out y hy;omega) N;have ay:Hid (Kept (fun x=>x<w1.heap.size/\x≠g) w1 w7):=aa.out.grown L (fun y hy=>by have:=hy.1;omega) (fun y hy hh=>by have:=N y hy;have:=hh.1;omega);have au:Hid (w7.ownsRow w1 5 1 (.slice A7 (p+k) c7) (p+k) (cZ .u8 (j++List.replicate k x))):=n9;have am:=hid Q;have av:Hid (FO w7 g=i):=oF;clear E L ae N Q;go_roundw
        case measure=>exact jn
        case rel=>exact iz
    ·have gE:(e2==0)=false:=(by simpa using a4);have Z:=an.out;rw[Ab a4,Ab a4]at Z;have ai:Hid ((e2=0->∃f',n<=f'+(p+k)/\EW f' n bs a2 (j++List.replicate k x)=T)/\(e2≠0->T=([],a2,e2))):=⟨fun h=>absurd h a4,fun _=>Z.symm⟩;have aw:Hid (n-(p+k)+(if e2=0 then 1 else 0)<n-p+1):=(by show _<_;rw[Aa a4];omega);have aj:Hid (Cur w5 g base bs A c a2 e2):=ak.out;clear Z an a4;obtain⟨i,rfl⟩:=ii e2;have af:=aj;have U:=ah;have M:=al;clear ak ah al aj;have z5:=M.out.size;go_wp2_with fail;have bq:Blk (w5.alloc (.cells #[.int .u8 (x:Nat)] 5)) w5 5 #[.int .u8 (x:Nat)]:=Blk.made _ _ _;refine(DR.out _ _ _ x k a3 bq).mono ?_;rintro e w6 ⟨v6,rfl,Y,G⟩;obtain⟨A6,c6,rfl⟩:=bZ Y;have z6:=G.size;simp at z6;have aq:Hid (Src w6 A6 k c6 1 (cZ .u8 (List.replicate k x))):=J9 Y;have ag:Hid (w6.ownsRow w1 5 1 _ p (cZ .u8 j)):=eZ (U.out.alloc _) (fun y hy=>G.block y kz);have ac:Cur w6 g base bs A c a2 i:=af.out.step ((aZ (Ag _ _)).trans (G.mono oK));have aa:Hid (Kept (fun x=>x<w1.heap.size/\x≠g) w1 w6):=M.out.trans (Kept.of_below ((aZ (Ag _ _)).trans (G.mono oK)) (fun y hy=>by have:=hy.1;omega));have ax:=hid ac;clear Y G bq ac af U M DR;go_wp2_with(at_builtin;refine iZ rfl (.tmp 54) (.tmp 58) 28 rfl w1 5 j0 _ 1 1 underlying28 a9 bg be bi rfl ip _ _ _ mz ag.out _ _ _ _ mz aq.out (Ci _ _) pm mw mw ?_;intro v7 w7 E L ae);obtain⟨A7,c7,rfl⟩:=bZ E;have N:=fun(y:Nat) hy=>(Aj ag.out y hy).1;have z7:=aa.out.size;have Q:Cur w7 g base bs A c a2 i:=JI ax.out L w1 mw (fun y hy=>by have:=bb.out y hy;omega) N;have ay:Hid (Kept (fun x=>x<w1.heap.size/\x≠g) w1 w7):=aa.out.grown L (fun y hy=>by have:=hy.1;omega) (fun y hy hh=>by have:=N y hy;have:=hh.1;omega);have au:Hid (w7.ownsRow w1 5 1 (.slice A7 (p+k) c7) (p+k) (cZ .u8 (j++List.replicate k x))):=n9;have am:=hid Q;have av:Hid (FO w7 g=i):=oF;clear E L ae N Q;go_roundw
     case measure=>exact jn
     case rel=>exact iz
   ·have g2:(er==0)=false:=ph;have an:=hid (HE.out he);have cc:=hid he;clear he HT HE;go_wp2_with fail;refine DE.out.mono ?_;rintro e w2 ⟨rfl,rfl⟩;go_wp2_with fail;go_ret;rw[an.out];refine⟨_,j,rfl,nw,nx,HC.out,b5.out.trans (Ja HK.out fun x hx=>⟨mg,hx.2⟩),fun h=>absurd h cc.out⟩
  ·obtain rfl:p=n:=by omega
   have HF:Hid (a1=T.2.1/\er=T.2.2/\(T.2.2=0->j=T.1)):=by
    by_cases he:er=0
    ·subst he;obtain⟨f,_,h⟩:=HT.out rfl;rw[Tl (by rw[HP.out];exact Ak _)]at h;rw[<-h];exact⟨rfl,rfl,fun _=>rfl⟩
    ·have h:=HE.out he;rw[h];exact⟨rfl,rfl,fun h0=>absurd h0 he⟩
   have g1:=ig ((p:Int)<p);clear HT HE;go_wp2_with fail;go_ret;refine⟨_,j,rfl,nw,nx,by rw[<-HF.out.1,<-HF.out.2.1];exact HC.out,b5.out.trans (Ja HK.out fun x hx=>⟨mg,hx.2⟩),HF.out.2.2⟩
end Recs
namespace Recs
open Go.RowKit Mem Own Canon NumPut Nums
def JP(n:Nat)(bs:List Nat)(T:List Nat×Nat×Int):List Nat×Nat×Int:=if T.2.2≠0 then([],T.2.1,T.2.2)else EW n n bs T.2.1 []
def LB(T L:List Nat×Nat×Int):List Nat×List Nat×Nat×Int:=if L.2.2≠0 then([],[],0,L.2.2)else(T.1,L.1,L.2.1,0)
def DV(n:Nat)(bs:List Nat):List Nat×List Nat×Nat×Int:=LB (FD n bs 0 0 []) (JP n bs (FD n bs 0 0 []))
theorem WP{bs:List Nat}{T:List Nat×Nat×Int}(h:(JP n bs T).2.2=0):T.2.2=0:=by
 by_cases e:T.2.2=0
 ·exact e
 ·unfold JP at h;rw[Ab e]at h;exact h
theorem Vb{fn:Func}{t u v x:Tmp}(h:fn.results=#[.tmp t, .tmp u, .tmp v, .tmp x])(i:Array Value)(P:Program)(w:World):
 (results fn i).run P w= .ok (.tuple #[i.getD t undef,i.getD u undef,i.getD v undef,i.getD x undef]) w:=by
 simp[results,h]
def Pz(R:List Nat×List Nat×Nat×Int)(w:World)(e:Ending)(w':World):Prop:=
 ∃vt vl,e= .returned (.tuple #[vt,vl, .int .i64 (R.2.2.1:Nat),R.2.2.2])/\w'.ownsRow w 41 1 vt R.1.length (cZ .u64 R.1)/\w'.ownsRow w 5 1 vl R.2.1.length (cZ .u8 R.2.1)/\Below w w w'
theorem WH(w:World)(A:Option Addr)(n c:Nat)(bs:List Nat)(k:Nat)(hn:bs.length=n)(ah:n<=100000)(h8:∀x∈bs,x<=255)(M:A=none->n=0/\c=0)(ha:Row w w A n 1 (jZ .u8 bs))(hk:k<=20000):
 Calls prog 116 #[.int .i64 (k:Nat), .slice A n c] w (Pz (DV k bs) w):=by
 have D0:=hid (new_any w A n c bs hn ah M ha);have J:bs.length<=100000:=mw
 have D1:=hid (fun wx g base B d h=>aR wx g base bs B d 0 k J h8 hk h);have D2:=hid (fun wx g base B d at_ er h=>XZ wx g base bs B d at_ k er J h8 hk h);have a1:=ig ((k:Int)<0)
 have a4:=ig ((20000:Int)<k)
 have az:=ig (20000<k)
 unfold DV;obtain⟨T,hT⟩:=ii (FD k bs 0 0 []);rw[<-hT]at D1 ⊢;have N:=hid (fun h=>WP (n:=k) (bs:=bs) (T:=T) h);have HL:Hid (∀at_ er,at_=T.2.1->er=T.2.2->(if er≠0 then([],at_,er)else EW k k bs at_ [])=JP k bs T):=fun at_ er h1 h2=>by subst h1 h2;rfl
 unfold Pz;clear hn M ha h8 ah hT;generalize JP k bs T=L at *;obtain⟨tl,ta,te⟩:=T;obtain⟨ll,la,le⟩:=L;simp only at *;go_enter func116,ntmps116;go_wp2_with fail;refine D0.out.mono ?_;rintro e w1 ⟨g,B,d,rfl,z,ae⟩;have z1:=ae.size;have a5:=z.blk.lt;have a3:=z.lo;have ak:=hid z;have ax:=hid ae;clear z ae D0;go_wp2_with fail;have aa:=ak.out.step (w':=w1.alloc (.cells #[.pointer (some ⟨g,0,none⟩)] 249)) pn;have al:Blk (w1.alloc (.cells #[.pointer (some ⟨g,0,none⟩)] 249)) w1 249 #[.pointer (some ⟨g,0,none⟩)]:=Blk.made _ _ _;have Q:Below w w (w1.alloc (.cells #[.pointer (some ⟨g,0,none⟩)] 249)):=nZ z1 ax.out;generalize w1.alloc (.cells #[.pointer (some ⟨g,0,none⟩)] 249)=w2 at *;have z2:=Q.size;have ai:w1.heap.size≠g:=mw
 have ay:=aa.blk.lt;have av:=hid al;have ag:=hid Q;have DT:=hid (D1.out w2 g w B d aa);clear aa al Q ak ax D1;refine DT.out.mono ?_;rintro e w3 ⟨vt,i,rfl,a6,Z,aw,y,au⟩;obtain⟨At,ct,rfl⟩:=bZ Z;have ac:=hid (My av.out ai y);have x3:=ac.out.ia 0;have G:=hid Z;have z3:=y.size;have aq:Hid (Below w w w3):=ag.out.trans (y.below fun b h=>⟨mw,mw⟩);have af:=hid au;have DL:=hid (D2.out w3 g w B d ta te aw);rw[HL.out ta te rfl rfl]at DL;clear Z aw y au DT av ag D2 HL;go_wp2_with fail;refine DL.out.mono ?_;rintro e w4 ⟨vl,aj,rfl,a9,ab,Y,j,E⟩;obtain⟨Al,cl,rfl⟩:=bZ ab;have a0:=hid (My ac.out ai j);have x4:=a0.out.ia 0;have z4:=j.size;have am:Hid (w4.ownsRow w 41 1 (.slice At i.length ct) i.length (cZ .u64 i)):=kZ (MD G.out ay j) z2;have an:=hid (kZ ab (by omega:w.heap.size<=w3.heap.size));have ar:Hid (Below w w w4):=aq.out.trans (j.below fun b h=>⟨mw,mw⟩);have U:=hid E;have DE:=hid (Dl w4 g w bs B d la le Y);have DA:=hid (Jq w4 g w bs B d la le Y);clear ab Y j E DL ac G aq x3;go_wp2_with fail;refine DE.out.mono ?_;rintro e w5 ⟨rfl,rfl⟩;by_cases he:le=0
 ·subst he;have et:=af.out (N.out rfl);have el:=U.out rfl;have hR:LB (tl,ta,te) (ll,la,0)=(i,aj,la,0):=by rw[et,el];exact Aa (by simp)
  have HR:=hid hR;clear et el hR af U N;go_wp2_with fail;refine DA.out.mono ?_;rintro e w6 ⟨rfl,rfl⟩;go_wp2_with fail;rw[HR.out];refine Cz (Vb rfl _ _ _) rfl ?_;exact⟨_,_,rfl,am.out,an.out,ar.out⟩
 ·have g1:(le != 0)=true:=by simpa using he
  have HR:Hid (LB (tl,ta,te) (ll,la,le)=([],[],0,le)):=Ab he;clear he af U N;go_wp2_with fail;rw[HR.out];refine Cz (Vb rfl _ _ _) rfl ?_;exact⟨_,_,rfl,AI _ _ _ _,AI _ _ _ _,ar.out⟩
end Recs
namespace Body
open Go.RowKit Mem Own Canon Nums Crc Recs
def Hu(k:Nat)(ls:List Nat):Int:=if Cw ls≠0 then Cw ls else if(DV k (Bh ls)).2.2.2≠0 then(DV k (Bh ls)).2.2.2 else if(DV k (Bh ls)).2.2.1<(Bh ls).length then 2 else 0
theorem NV(h8:∀x∈ls,x<=255):∀x∈Bh ls,x<=255:=fun x hx=>by
 unfold Bh at hx;split at hx
 ·exact h8 x (CV hx)
 ·simp at hx
theorem NP(ls:List Nat):(Bh ls).length<=ls.length:=by
 unfold Bh;split
 ·rw[AZ];omega
 ·simp
def Ns(w:World)(gb:Nat)(t:TypeId)(cs:Array Value)(k:Nat)(ls:List Nat)(e:Ending)(w':World):Prop:=
 e= .returned (.int .i64 (Hu k ls))/\Kept (fun x=>x<w.heap.size/\x≠gb) w w'/\(Hu k ls=0->∃vt vl,Blk w' gb t ((cs.setIfInBounds 4 vt).setIfInBounds 5 vl)/\w'.ownsRow w 41 1 vt (DV k (Bh ls)).1.length (cZ .u64 (DV k (Bh ls)).1)/\w'.ownsRow w 5 1 vl (DV k (Bh ls)).2.1.length (cZ .u8 (DV k (Bh ls)).2.1))
theorem Wk(w:World)(gb:Nat)(t:TypeId)(cs:Array Value)(A:Option Addr)(n c k:Nat)(ls:List Nat)(hB:Blk w gb t cs)(aw:6<=cs.size)(am:41≠t)(ag:5≠t)(hn:ls.length=n)(aq:n<=100000)(hc:n<=c)(h8:∀x∈ls,x<=255)(ht:TabAt w)(ha:Row w w A n 1 (jZ .u8 ls))(hk:k<=20000):
 Calls prog 59 #[.pointer (some ⟨gb,4,none⟩), .int .i64 (k:Nat), .slice A n c] w (Ns w gb t cs k ls):=by
 have D0:=MH w A n c ls hn aq hc h8 ht ha;unfold Je at D0;have ax:=hB.lt;have ah:=NV h8;have ay:=NP ls;unfold Ns;obtain⟨R,hR⟩:=ii (Hu k ls);rw[<-hR];unfold Hu at hR;generalize Cw ls=ce at *;generalize Bh ls=co at *;have au:co.length<=100000:=mw
 have DR:=hid (fun wx (Ax:Option Addr) (cx:Nat) (hnx:Ax=none->co.length=0/\cx=0) (hax:Row wx wx Ax co.length 1 (jZ .u8 co))=>WH wx Ax co.length cx co k rfl mw ah hnx hax hk);generalize DV k co=C at *;obtain⟨ct,cl,ck,U⟩:=C;unfold Pz at DR;simp only at hR DR;have D0:=hid D0;have HR:=hid hR;have an:=hid hB;clear hn hc h8 ht ha hR ah hB;go_enter func59,ntmps59;go_wp2_with fail;refine D0.out.mono ?_;rintro e w1 ⟨v,rfl,j,L⟩;obtain⟨Ac,cc,rfl⟩:=bZ j;have G:=hid L;have al:Hid (Kept (fun x=>x<w.heap.size/\x≠gb) w w1):=Kept.of_below L (fun x hx=>hx.1);by_cases z:ce=0
 ·subst z;have hr:=HR.out;rw[Aa (show ¬((0:Int)≠0) from fun h=>h rfl)]at hr;have E:=hid hr;have D1:=hid (DR.out w1 Ac cc (Jh j) (own_row j));obtain⟨m,hm⟩:=ii co.length;rw[<-hm]at D1 hr au;have HM:=hid hm;clear j L hr DR D0 HR;rw[<-hm];clear hm;go_wp2_with fail;refine D1.out.mono ?_;rintro e w2 ⟨vt,vl,rfl,Y,aa,af⟩;obtain⟨At,nt,rfl⟩:=bZ Y;obtain⟨Al,nl,rfl⟩:=bZ aa;have ae:Hid (Below w w w2):=G.out.trans (af.mono G.out.size);have y:=hid (an.out.step (ae.out));have ak:=hid (kZ Y G.out.size);have ac:=hid (kZ aa G.out.size);have Q:Hid (Kept (fun x=>x<w.heap.size/\x≠gb) w w2):=Kept.of_below ae.out (fun x hx=>hx.1);clear Y aa af D1 G al;by_cases i:U=0
  ·subst i;have hr:=E.out;rw[Aa (show ¬((0:Int)≠0) from fun h=>h rfl),<-HM.out]at hr;by_cases J:ck<m
   ·have g1:=ic ((ck:Int)<m);have ar:=ic (ck<m);have HF:Hid (R=2):=(by rw[Ab J]at hr;exact hr);clear hr E J;go_wp2_with fail;go_ret;rw[HF.out];exact⟨rfl,Q.out,fun h=>absurd h ip⟩
   ·have g1:=ig ((ck:Int)<m);have ar:=ig (ck<m);have HF:Hid (R=0):=(by rw[Aa J]at hr;exact hr);have q4:=y.out.cell 4;have q5:=y.out.cell 5;rw[J7 mw]at q4 q5;generalize cs[4]=o4 at q4;generalize cs[5]=o5 at q5;have f4:=y.out.frozen 4;have f5:=y.out.frozen 5;have ab:=hid (y.out.set 4 (.slice At ct.length nt));have M:=hid (BS (p:=⟨gb,4,none⟩) ak.out (gZ ak.out y.out am) (.slice At ct.length nt));have N:=hid (BS (p:=⟨gb,4,none⟩) ac.out (gZ ac.out y.out ag) (.slice At ct.length nt));have av:=hid (ab.out.set 5 (.slice Al cl.length nl));have ai:=hid (BS (p:=⟨gb,5,none⟩) M.out (gZ M.out ab.out am) (.slice Al cl.length nl));have aj:=hid (BS (p:=⟨gb,5,none⟩) N.out (gZ N.out ab.out ag) (.slice Al cl.length nl));clear hr E J;go_wp2_with fail;go_ret;rw[HF.out];exact⟨rfl,(Q.out.set (fun h=>h.2 rfl) _).set (fun h=>h.2 rfl) _,fun _=>⟨_,_,av.out,ai.out,aj.out⟩⟩
  ·have gE:(U != 0)=true:=(by simpa using i);have HF:Hid (R=U):=(by have h:=E.out;rw[Ab i]at h;exact h);have Z:=hid i;clear i E;go_wp2_with fail;go_ret;rw[HF.out];exact⟨rfl,Q.out,fun h=>absurd h Z.out⟩
 ·have gE:(ce != 0)=true:=by simpa using z
  have HF:Hid (R=ce):=by have h:=HR.out;rw[Ab z]at h;exact h
  have Z:=hid z;clear z HR j L DR D0;go_wp2_with fail;go_ret;rw[HF.out];exact⟨rfl,al.out,fun h=>absurd h Z.out⟩
end Body
end Go.Proofs.YtfgdoknipbpfhaaGreatDoor
