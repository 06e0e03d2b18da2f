/- slices.Repeat of one -/
import Derived.Test.YtfgdoknipbpfhaaGreatDoorZBodyOpened22
import Derived.Lib.Zigzag
import Derived.Laws.CopyOwn
namespace Go.Proofs.YtfgdoknipbpfhaaGreatDoor
open Go.Proofs.Tryz
open Go.Lib (hid)
set_option maxHeartbeats 4000000
set_option maxRecDepth 100000
variable{base c g m n:Nat}{a b w w':World}{e:TypeId}{A:Option Addr}{ls:List Nat}
namespace Recs
open Go.RowKit Mem Own Canon NumPut
open Crc (FG)
def GU(z:Nat):Nat:=if z % 2=1 then 18446744073709551615-z / 2 else z / 2
theorem aB{z:Nat}(h:z<18446744073709551616):GU z<18446744073709551616:=by unfold GU;split<;>omega
theorem ZQ(w:World)(z:Nat)(hz:z<18446744073709551616):
 Calls prog 242 #[.int .u64 z] w fun e w'=>e= .returned (.int .u64 (GU z:Nat))/\w'=w:=by
 obtain⟨y,hy⟩:=ii (GU z);rw[<-hy];unfold GU at hy;have ha:bits .and .u64 (z:Int) 1=((z % 2:Nat):Int):=by have h:=bits_and_u64_nat z 1 hz mz;rw[Nat.and_one_is_mod]at h;exact h
 have e:bits .xor .u64 ((z:Int) / 2) (IntKind.u64.wrap (-(bits .and .u64 (z:Int) 1)))=(y:Int):=by
  rw[ha];by_cases h:z % 2=1
  ·rw[Ae h]at hy;have e2:IntKind.u64.wrap (-((z % 2:Nat):Int))=((2 ^ 64-1:Nat):Int):=(by rw[Bv,h];omega);rw[e2,show(z:Int) / 2=((z / 2:Nat):Int) by omega,bits_xor_u64_nat _ _ mz ip,Nat.xor_comm,Lib.xor_ones64 _ mz];omega
  ·rw[Ab h]at hy;have e2:IntKind.u64.wrap (-((z % 2:Nat):Int))=((0:Nat):Int):=n5;rw[e2,show(z:Int) / 2=((z / 2:Nat):Int) by omega,bits_xor_u64_nat _ _ mz ip,Nat.xor_zero];omega
 have HE:=hid e;clear hy e ha;go_enter func242,ntmps242;go_wp2_with fail;go_ret;exact⟨Ih HE.out,rfl⟩
theorem iS(w:World)(k:Nat)(hk:k<=100000):
 Calls prog 327 #[.int .u64 1, .int .u64 k] w fun e w'=>e= .returned (.tuple #[.int .u64 0, .int .u64 k])/\w'=w:=by
 have a1:bits .and .u64 (1:Int) 4294967295=1:=ip
 have a0:bits .and .u64 (0:Int) 4294967295=0:=ip
 have ak:bits .and .u64 (k:Int) 4294967295=(k:Int):=by have h:=bits_and_u64_nat k 4294967295 mz mz;rw[show 4294967295=2 ^ 32-1 from rfl,NG,Nat.mod_eq_of_lt mz]at h;exact h
 have sk:(k:Int) / 4294967296=0:=mz
 have wk:IntKind.u64.wrap (k:Int)=(k:Int):=n5
 go_enter func327,ntmps327;go_wp2_with fail;go_ret2;exact⟨rfl,rfl⟩
theorem Zy(w:World)(k:Nat)(hk:k<=100000):
 Calls prog 293 #[.int .u64 1, .int .u64 k] w fun e w'=>e= .returned (.tuple #[.int .u64 0, .int .u64 k])/\w'=w:=by
 have D:=hid (iS w k hk);go_enter func293,ntmps293;go_wp2_with fail;refine D.out.mono ?_;rintro e w1 ⟨rfl,rfl⟩;go_wp2_with fail;go_ret2;exact⟨rfl,rfl⟩
def EU(x n k:Nat):List Value:=List.replicate n (.int .u8 (x:Nat))++List.replicate (k-n) (.int .u8 0)
theorem RM{x k:Nat}(h:n<=k):(EU x n k).length=k:=by simp[EU];omega
theorem gX(x k:Nat):madeCells #[.int .u8 0] k=(EU x 0 k).toArray:=by
 apply Array.ext_getElem?
 intro i;by_cases h:i<k
 ·simp[EU,madeCells,h,Nat.mod_one]
 ·simp[EU,madeCells,h]
theorem Rt(x n m k:Nat):splice (EU x n k) n (List.replicate m (.int .u8 (x:Nat)))=EU x (n+m) k:=by
 unfold splice EU;have e1:(List.replicate n (Value.int .u8 (x:Nat))++List.replicate (k-n) (Value.int .u8 0)).take n=List.replicate n (Value.int .u8 (x:Nat)):=by rw[List.take_append_of_le_length pI];simp
 have e2:(List.replicate n (Value.int .u8 (x:Nat))++List.replicate (k-n) (Value.int .u8 0)).drop (n+m)=List.replicate (k-(n+m)) (Value.int .u8 0):=by rw[List.drop_append];simp;omega
 rw[Dr,e1,e2,<-AJ,List.replicate_append_replicate]
theorem fU(x k:Nat):EU x k k=cZ .u8 (List.replicate k x):=by simp[EU,cZ]
theorem RO{i:Nat}{a v:Value}(h:(List.replicate m a)[i]? =some v):i<m/\v=a:=by obtain⟨hj,hv⟩:=CE.1 h;rw[Dr]at hj;rw[List.getElem_replicate]at hv;exact⟨hj,hv.symm⟩
theorem bV:(prog.info? 5).map (fun i=>(i.zero,i.size,i.bytes))=some (some (.int .u8 0),1,1):=mr
theorem a7(n:Nat)(hn:n<=8388608)(w:World):(Instr.makeSlice 28 (.int .i64 (n:Int)) (.int .i64 (n:Int))).run prog w=
 .ok (.slice (some ⟨w,0,none⟩) n n) (w.alloc (.cells (madeCells #[.int .u8 0] n) 5)):=by
 obtain⟨i0,hi,y,i,j⟩:=info_parts bV;have h:=run_make (P:=prog) w 28 5 i0 (.int .u8 0) underlying28 hi y .i64 .i64 (n:Int) (n:Int) mz (Int.le_refl _) o7 mz;simp only[Int.toNat_natCast]at h;simpa[i,Value.cells]using h
theorem TB:(prog.info? 5).map (·.size)=some 1:=mr
theorem aO(w:World)(g c x k:Nat)(hk:k<=100000)(hx:Blk w g 5 #[.int .u8 (x:Nat)]):
 Calls prog 244 #[.slice (some ⟨g,0,none⟩) 1 c, .int .i64 (k:Nat)] w fun e w'=>∃v,e= .returned v/\w'.ownsRow w 5 1 v k (cZ .u8 (List.replicate k x))/\Below w w w':=by
 have D:=hid (Zy w k hk);have hm:=a7 k mz;have M:=ig ((k:Int)<0)
 have aa:=ig ((9223372036854775807:Int)<k)
 have z:=ig (9223372036854775807<k)
 have wk:IntKind.u64.wrap (k:Int)=(k:Int):=n5
 have wi:IntKind.i64.wrap (k:Int)=(k:Int):=Aw _ mz;have c0:=hx.ia 0;have hg:=hx.lt;have aj:=hid c0;clear hx;rw[gX x k]at hm;go_enter func244,ntmps244;go_wp2_with fail;refine D.out.mono ?_;rintro e w1 ⟨rfl,rfl⟩;obtain⟨m,i⟩:=ii (Nat.min 1 k);have ah:m<=k:=by rw[i];exact Nat.min_le_right _ _
 have al:m<=1:=by rw[i];exact Nat.min_le_left _ _
 have HM:=hid i;have Q:Hid (0<k->0<m):=fun h=>by rw[i];exact Nat.lt_min.2 ⟨mz,h⟩
 clear i;go_wp2_with((with_reducible show wpList _ _ _ (⟨some 33,_,_,_,_,_⟩ :: _) _ _);refine wpList_copy_splice rfl (.tmp 31) (.tmp 32) 28 28 rfl 5 underlying28 TB (some ⟨w1,0,none⟩) (some ⟨g,0,none⟩) k k 1 c nc nc w1.heap.size 0 (EU x 0 k) 5 (heap_alloc_new w1 _) (List.replicate m (.int .u8 (x:Nat))) (by rw[Dr];exact HM.out) (fun _=>⟨rfl,_,rfl,fun j v hv=>by obtain⟨hj,rfl⟩:=RO hv;obtain rfl:j=0:=mz;exact(World.cell?_alloc_lt w1 _ ⟨g,0,none⟩ hg).trans aj.out⟩) (by rw[Dr,RM (Cr k)];omega) (by intro v hv;rw[(List.mem_replicate.1 hv).2];rfl) w1.heap.size w1 (aZ (Ag _ _)) (Aq _) ?_;intro w2 y U);have ac:=hid U;rw[Rt]at y;rw[Ck]at y;have N:Hid (0<k->0<m):=Q.out;clear U c0 hm D HM Q aa z M wk wi;generalize hb:w1.heap.size=b at *;have G:=hid hb;clear hb;go_loopw [8] (fun nv wr=>∃q:Nat,q<=k/\nv= .int .i64 q/\Hid (0<k->0<q)/\Hid (wr.heap[b]? =some (.cells (EU x q k).toArray 5 (0,0)))/\Hid (Below b w1 wr)) (fun nv _=>k-(intOf nv).toNat)
 case atStart=>exact⟨m,ah,rfl,N.out,y.out,ac.out⟩
 case round=>
  obtain⟨q,hq,rfl,HQ,HG,HB⟩:=hrel;clear y ac N;by_cases aq:q<k
  ·have g1:=ic ((q:Int)<k);have am:=ic (q<k);have af:0<q:=HQ.out mz;have E:AW (some ⟨b,0,none⟩) q k 1=some ⟨b,q,none⟩:=(by unfold AW;rw[Ab mz];show some (Addr.add ⟨b,0,none⟩ (q*1))=_;rw[Gh,Ck,CG]);have ai:=fun wx=>Gc (P:=prog) (t:=28) (s:=1) underlying28 (fun _=>by kernel_rfl) (some ⟨b,0,none⟩) k k .i64 (q:Int) q rfl hq wx;rw[E]at ai;have an:=fun wx=>FG (P:=prog) (t:=28) (s:=1) underlying28 (fun _=>by kernel_rfl) (some ⟨b,0,none⟩) k k .i64 (q:Int) q rfl hq (by intro a ha;injection ha with ha;subst ha;exact Gh _ _ _) wx;obtain⟨d,hd⟩:=ii (Nat.min q (k-q));have Y:q+d<=k/\0<d/\d<=q:=(by have h1:d<=k-q:=(by rw[hd];exact Nat.min_le_right _ _);have h2:d<=q:=(by rw[hd];exact Nat.min_le_left _ _);have h3:0<d:=(by rw[hd];exact Nat.lt_min.2 ⟨af,mz⟩);omega);have S1:Hid (IntKind.i64.wrap ((q:Int)+(d:Int))=((q+d:Nat):Int)):=(by show _=_;rw[Aw _ mz];omega);have S2:Hid (wrap64 ((q:Int)+(d:Int))=((q+d:Nat):Int)):=(by show _=_;rw[I5 _ ⟨mz,mz⟩];omega);have HD:=hid hd;have Z:Hid (∀j v,(List.replicate d (Value.int .u8 (x:Nat)))[j]? =some v->wr.cell? (Addr.add ⟨b,0,none⟩ j)=some v):=fun j v hv=>by obtain⟨hj,rfl⟩:=RO hv;have ag:j<q:=mz;rw[Gh,Ck,(show Blk wr b _ _ from HG.out).cell j];simp[EU,List.getElem?_append,ag]
   clear hd E;have s1:=S1.out;have s2:=S2.out;go_wp2_with fail;go_region_law((refine step_copy_splice rfl (.tmp 41) (.tmp 44) 28 28 rfl 5 underlying28 TB (some ⟨b,q,none⟩) (some ⟨b,0,none⟩) (k-q) (k-q) q k (by go_simp) (by go_simp) b q (EU x q k) 5 HG.out (List.replicate d (.int .u8 (x:Nat))) (by rw[Dr];exact HD.out) (fun _=>⟨rfl,_,rfl,Z.out⟩) (by rw[Dr,RM hq];exact Y.1) (by intro v hv;rw[(List.mem_replicate.1 hv).2];rfl) b w1 HB.out.drew (Aq _) ?_);intro w4 ab J)
   all_goals
    have ak:Hid (w4.heap[b]? =some (.cells (EU x (q+d) k).toArray 5 (0,0))):=(by have h:=ab.out;rw[Rt]at h;exact h);have ae:=hid J;clear ab J
    go_simp
    go_wp2_with fail;go_roundw
    case measure=>exact jo
    case rel=>go_light;exact⟨q+d,Y.1,iu,fun _=>mz,ak.out,ae.out⟩
  ·obtain rfl:q=k:=by omega
   have g1:=ig ((q:Int)<q);go_wp2_with fail;go_ret;refine⟨_,rfl,⟨pT, .inr ⟨b,q,(EU x q q).toArray,rfl,?_,HG.out,Aq _,qg,by simp[EU],?_⟩⟩,?_⟩
   ·rw[<-G.out];exact Aq _
   ·rw[CG,<-fU];exact BV (by simp[EU])
   ·rw[<-G.out]at HB;exact HB.out
end Recs
namespace Recs
open Go.RowKit Mem Own Canon NumPut Nums
def FO:Nat->List Nat->Nat->Nat->List Nat->List Nat×Nat×Int
 |0,_,at_,_,acc=>(acc,at_,0)
 |k+1,bs,at_,was,acc=>if IR bs at_ 0≠0 then([],IT bs at_ 0,IR bs at_ 0)else FO k bs (IT bs at_ 0) ((was+GU (Hf bs at_ 0)) % 18446744073709551616) (acc++ [(was+GU (Hf bs at_ 0)) % 18446744073709551616])
theorem Jc{K K':Nat->Prop}(h:Kept K a b)(hi:∀x,K' x->K x):Kept K' a b:=⟨h.os,h.tape,h.output,h.size,fun x hx=>h.block x (hi x hx)⟩
theorem PC{B:Nat}{c:World}(h:Kept (fun x=>x<B/\x≠g) a b)(hB:B<=b.heap.size)(k:Kept (BD g b) b c):Kept (fun x=>x<B/\x≠g) a c:=h.trans (Jc k fun x hx=>⟨mg,hx.2⟩)
theorem Mf{s:Nat}{v:Value}{xs:List Value}(h:w.ownsRow base e s v n xs)(hg:g<base)(k:Kept (BD g w) w w'):w'.ownsRow base e s v n xs:=
 eZ h fun x hx=>k.block x ⟨(Am h x hx).2,by have:=(Am h x hx).1;omega⟩
theorem Ma{b:Nat}{t:TypeId}{cs:Array Value}(h:Blk w b t cs)(hg:b≠g)(k:Kept (BD g w) w w'):Blk w' b t cs:=(k.block b ⟨h.lt,hg⟩).trans h
theorem Lk{k:IntKind}(h:w.ownsRow base e 1 (.slice A n c) n (cZ k ls)):Src w A n c 1 (cZ k ls):=by
 obtain⟨h0,h1⟩:=h;refine⟨h0,?_⟩;rcases h1 with ⟨hv,_⟩|⟨g,y,cur,hv,_,hh,_,_,_,i⟩
 ·injection hv with e1 e2 e3;exact .inl ⟨e1,e2,e3⟩
 ·injection hv with e1 e2 e3;refine .inr ⟨⟨g,0,none⟩,e1,fun j u hu=> ?_⟩;rw[Gh,Ck,Blk.cell hh];rw[<-i,Gq]at hu;split at hu
  ·simpa using hu
  ·cases hu
theorem JM{row:Option Nat}{at_:Nat}{bs:List Nat}{er:Int}(h:Cur w g base bs A c at_ er)(hg:w.grownBy w' row)(B:Nat)(j:g<B)(i:∀x,(Value.slice A bs.length c).ownBlock=some x->x<B)(hr:∀x,row=some x->B<=x):Cur w' g base bs A c at_ er:=
 ⟨h.blk.grown hg (fun e=>by have:=hr g e.symm;omega),eZ h.own (fun x hx=>hg.block x (Am h.own x hx).2 (fun e=>by have:=i x hx;have:=hr x e.symm;omega)),h.le,h.lo⟩
def lenS:Value->Nat
 | .slice _ n _=>n
 |_=>0
theorem eT:(prog.info? 41).map (fun i=>(i.zero,i.size,i.bytes))=some (some (.int .u64 0),1,8):=mr
def VS(w:World)(n g base:Nat)(bs:List Nat)(A:Option Addr)(c:Nat)(T:List Nat×Nat×Int)(e:Ending)(w':World):Prop:=
 ∃v acc,e= .returned v/\acc.length<=n/\w'.ownsRow w 41 1 v acc.length (cZ .u64 acc)/\Cur w' g base bs A c T.2.1 T.2.2/\Kept (BD g w) w w'/\(T.2.2=0->acc=T.1)
theorem dN(w:World)(g base:Nat)(bs:List Nat)(A:Option Addr)(c at_ n:Nat)(ae:bs.length<=100000)(h8:∀x∈bs,x<=255)(hn:n<=20000)(h:Cur w g base bs A c at_ 0):
 Calls prog 193 #[.agg #[.pointer (some ⟨g,0,none⟩)], .int .i64 (n:Nat)] w (VS w n g base bs A c (FO n bs at_ 0 [])):=by
 obtain⟨j0,a5,bb,ar,au⟩:=info_parts eT;obtain⟨T,hT⟩:=ii (FO n bs at_ 0 []);rw[<-hT];have ac:Hid (FO (n-0) bs at_ 0 []=T):=hT.symm;have H8:=hid h8;have aw:=hid ae;have bh:=h.blk.lt;have H:=hid h;have an:Hid (∀y,(Value.slice A bs.length c).ownBlock=some y->y<w.heap.size):=fun y hy=>(Am h.own y hy).2;unfold VS;clear h h8 hT ae;go_enter func193,ntmps193;go_wp2_with fail;have ai:=H.out.step (w':=w.alloc (.cells #[.pointer (some ⟨g,0,none⟩)] 249)) (aZ (Ag _ _));have aa:Blk (w.alloc (.cells #[.pointer (some ⟨g,0,none⟩)] 249)) w 249 #[.pointer (some ⟨g,0,none⟩)]:=Blk.made _ _ _;have Y:Kept (BD g w) w (w.alloc (.cells #[.pointer (some ⟨g,0,none⟩)] 249)):=Kept.of_below (B:=w.heap.size) (aZ (Ag _ _)) (fun x hx=>hx.1);generalize w.alloc (.cells #[.pointer (some ⟨g,0,none⟩)] 249)=w1 at *;have z1:=Y.size;have ax:=aa.lt;have av:=hid ai;have aq:=hid aa;have ah:=hid Y;have a0:w.heap.size≠g:=mz
 clear ai aa Y H;go_loopw [5,6] (fun v uv wr=>∃ (a1:Nat) (er:Int) (z p:Nat) (j:List Nat),p<=n/\z<18446744073709551616/\uv= .int .u64 z/\Hid (j.length=p)/\Hid (Cur wr g base bs A c a1 er)/\Hid (wr.ownsRow w1 41 1 v p (cZ .u64 j))/\Hid (Kept (fun x=>x<w1.heap.size/\x≠g) w1 wr)/\Hid (er=0->FO (n-p) bs a1 z j=T)/\Hid (er≠0->T=([],a1,er))) (fun v _ _=>n-lenS v)
 case atStart=>exact⟨at_,0,0,0,[],mz,mz,rfl,rfl,av.out,AK _ _ _ _,Kept.refl _ _,fun _=>ac.out,fun h=>absurd rfl h⟩
 case round=>
  obtain⟨a1,er,z,p,j,hp,bd,rfl,HP,HC,HO,HK,HT,HE⟩:=hrel;have zk:=HK.out.size;obtain⟨va,vc,rfl⟩:=bZ HO.out;have xb:Blk wr w 249 #[.pointer (some ⟨g,0,none⟩)]:=(HK.out.block _ ⟨ax,a0⟩).trans aq.out;have x0:=xb.ia 0;have XB:=hid xb;clear xb ac;by_cases bg:p<n
  ·have g1:=ic ((p:Int)<n);have bf:=ic (p<n);have DE:=hid (Dv wr g base bs A c a1 er HC.out);by_cases he:er=0
   ·subst he;have G:=HT.out rfl;rw[show n-p=(n-(p+1))+1 by omega,FO]at G;have M:Hf bs a1 0<18446744073709551616:=(by have bc:∀x∈bs.drop a1,x<=255:=fun x hx=>H8.out x (Cb hx);have:=(J5 (bs.drop a1) 0 0 bc mz pI).1;unfold Hf;rw[Ab pI];exact this);have D1:=hid (fun wx hx=>num_any wx g base bs A c a1 0 aw.out H8.out hx);generalize Hf bs a1 0=v1 at *;generalize IT bs a1 0=a2 at *;generalize IR bs a1 0=e2 at *;have be:=aB M;have D2:=hid (fun wx=>ZQ wx v1 M);generalize GU v1=y1 at *;have s1:IntKind.u64.wrap ((z:Int)+(y1:Int))=(((z+y1) % 18446744073709551616:Nat):Int):=n5;have a3:(z+y1) % 18446744073709551616<18446744073709551616:=Nat.mod_lt _ mz;generalize (z+y1) % 18446744073709551616=i at *;have al:Hid ((e2=0->FO (n-(p+1)) bs a2 i (j++ [i])=T)/\(e2≠0->T=([],a2,e2))):=⟨fun h=>by rw[Ab pV]at G;exact G,fun h=>by rw[Ae h]at G;exact G.symm⟩;clear G HT HE;go_wp2_with fail;refine DE.out.mono ?_;rintro e w2 ⟨rfl,rfl⟩;go_wp2_with fail;refine(D1.out _ HC.out).mono ?_;rintro e w3 ⟨rfl,ak,J⟩;have z3:=J.size;have am:=hid ak;have aj:Hid (w3.ownsRow w1 41 1 (.slice va p vc) p (cZ .u64 j)):=Mf HO.out mz J;have az:Hid (Kept (fun x=>x<w1.heap.size/\x≠g) w1 w3):=PC HK.out zk J;clear ak J x0 HC HO HK DE D1 XB;go_wp2_with fail;refine(D2.out _).mono ?_;rintro e w4 ⟨rfl,rfl⟩;go_wp2_with(at_builtin;refine iZ rfl (.tmp 23) (.tmp 25) 98 rfl w1 41 j0 _ 1 8 underlying98 a5 bb ar au rfl ip _ _ _ nc (aj.out.alloc _) _ 1 1 [.int .u64 (i:Nat)] nc (Src.of_blk (Blk.made_at _ _ _ pI) 1 1 1 rfl) mj qg mz pQ ?_;intro v5 w5 E Q ab;obtain⟨A5,c5,rfl⟩:=bZ E);have U:=aZ (o:= .cells #[.int .u64 (i:Nat)] 41) (Ag w4 w4);have af:=am.out.step U;have N:Kept (fun x=>x<w1.heap.size/\x≠g) w1 (w4.alloc (.cells #[.int .u64 (i:Nat)] 41)):=az.out.trans (Kept.of_below U (fun x hx=>by have:=hx.1;omega));have bi:=N.size;have Z:∀y,(Value.slice va p vc).ownBlock=some y->w1.heap.size<=y:=fun y hy=>(Am aj.out y hy).1;have ag:Cur w5 g base bs A c a2 e2:=JM af Q w1 mz (fun y hy=>by have:=an.out y hy;omega) Z;have a6:Hid (Kept (fun x=>x<w1.heap.size/\x≠g) w1 w5):=N.grown Q (fun y hy=>by have:=hy.1;omega) (fun y hy hh=>by have:=Z y hy;have:=hh.1;omega);have ba:=hid ag;have a4:Hid (w5.ownsRow w1 41 1 (.slice A5 (p+1) c5) (p+1) (cZ .u64 (j++ [i]))):=(by show World.ownsRow _ _ _ _ _ _ _;rw[show cZ .u64 (j++ [i])=cZ .u64 j++ [.int .u64 (i:Nat)] by simp[cZ]];exact E);clear E Q ab U af N ag Z;go_roundw
    case measure=>go_light;simp[lenS];omega
    case rel=>go_light;exact⟨a2,e2,i,p+1,j++ [i],mz,a3,iu,by show _=_;rw[Aj,HP.out];rfl,ba.out,a4.out,a6.out,al.out.1,al.out.2⟩
   ·have g2:(er==0)=false:=p7;have ay:=hid (HE.out he);have a9:=hid he;clear he HT HE;go_wp2_with fail;refine DE.out.mono ?_;rintro e w2 ⟨rfl,rfl⟩;go_wp2_with fail;go_ret;rw[ay.out];refine⟨_,j,rfl,ox,oy,HC.out,ah.out.trans (Jc HK.out fun x hx=>⟨mg,hx.2⟩),fun h=>absurd h a9.out⟩
  ·obtain rfl:p=n:=by omega
   have HF:Hid (a1=T.2.1/\er=T.2.2/\(T.2.2=0->j=T.1)):=by
    by_cases he:er=0
    ·subst he;have h:=HT.out rfl;rw[Gn,FO]at h;rw[<-h];exact⟨rfl,rfl,fun _=>rfl⟩
    ·have h:=HE.out he;rw[h];exact⟨rfl,rfl,fun h0=>absurd h0 he⟩
   have g1:=ig ((p:Int)<p);clear HT HE;go_wp2_with fail;go_ret;refine⟨_,j,rfl,ox,oy,by rw[<-HF.out.1,<-HF.out.2.1];exact HC.out,ah.out.trans (Jc HK.out fun x hx=>⟨mg,hx.2⟩),HF.out.2.2⟩
def Ic(m:Nat)(bs:List Nat)(at_:Nat):Nat×Nat×Nat×Int:=
 (GE bs at_ 0,Ba m bs (takeA bs at_ 0 1) (BQ bs at_ 0 1),AM m bs (takeA bs at_ 0 1) (BQ bs at_ 0 1),AO m bs (takeA bs at_ 0 1) (BQ bs at_ 0 1))
def KV(acc:List Nat)(o:Nat×Nat×Nat×Int):Int:=if o.2.2.2≠0 then o.2.2.2 else if o.2.1=0∨acc.getLast?=some o.1 then 2 else 0
def Ff:Nat->Nat->List Nat->Nat->List Nat->List Nat×Nat×Int
 |0,_,_,at_,acc=>(acc,at_,0)
 |f+1,n,bs,at_,acc=>if n<=acc.length then(acc,at_,0)else if KV acc (Ic (n-acc.length) bs at_)≠0 then([],(Ic (n-acc.length) bs at_).2.2.1,KV acc (Ic (n-acc.length) bs at_))else
  Ff f n bs (Ic (n-acc.length) bs at_).2.2.1 (acc++List.replicate (Ic (n-acc.length) bs at_).2.1 (Ic (n-acc.length) bs at_).1)
theorem aE{bs:List Nat}(h8:∀x∈bs,x<=255)(at_:Nat)(er:Int)(h:AO m bs at_ er≠0):Ba m bs at_ er=0:=by
 unfold AO at h;unfold Ba;by_cases he:er=0
 ·rw[Ab (by simp[he])]at h;rw[Ab (by simp[he])];exact((Hl m (bs.drop at_) fun x hx=>h8 x (Cb hx)).2.2.2.1 h).1
 ·rw[Ae he]
theorem Rh{f:Nat}{bs:List Nat}{at_:Nat}{i:List Nat}(h:n<=i.length):Ff f n bs at_ i=(i,at_,0):=by
 cases f with
 |zero=>rfl
 |succ f=>exact Ae h
def FX(w:World)(g:Nat):Int:=intOf ((w.cell? ⟨g,2,none⟩).getD (.int .i64 0))
theorem ZT:(prog.info? 5).map (fun i=>(i.zero,i.size,i.bytes))=some (some (.int .u8 0),1,1):=mr
def TV(w:World)(n g base:Nat)(bs:List Nat)(A:Option Addr)(c:Nat)(T:List Nat×Nat×Int)(e:Ending)(w':World):Prop:=
 ∃v acc,e= .returned v/\acc.length<=n/\w'.ownsRow w 5 1 v acc.length (cZ .u8 acc)/\Cur w' g base bs A c T.2.1 T.2.2/\Kept (BD g w) w w'/\(T.2.2=0->acc=T.1)
theorem Z3(w:World)(g base:Nat)(bs:List Nat)(A:Option Addr)(c at_ n:Nat)(av:Int)(bC:bs.length<=100000)(h8:∀x∈bs,x<=255)(hn:n<=20000)(h:Cur w g base bs A c at_ av):
 Calls prog 194 #[.agg #[.pointer (some ⟨g,0,none⟩)], .int .i64 (n:Nat)] w (TV w n g base bs A c (if av≠0 then([],at_,av)else Ff n n bs at_ [])):=by
 obtain⟨j0,bi,bj,bf,bg⟩:=info_parts ZT;obtain⟨T,hT⟩:=ii (if av≠0 then([],at_,av)else Ff n n bs at_ [])
 rw[<-hT];have bl:Hid ((av=0->∃f,n<=f+0/\Ff f n bs at_ []=T)/\(av≠0->T=([],at_,av))):=⟨fun h=>⟨n,Aq _,by rw[hT,Ab pV]⟩,fun h=>by rw[hT,Ae h]⟩;have H8:=hid h8;have b4:=hid bC;have co:=h.blk.lt;have H:=hid h;have bd:Hid (∀y,(Value.slice A bs.length c).ownBlock=some y->y<w.heap.size):=fun y hy=>(Am h.own y hy).2;unfold TV;clear h h8 hT bC;go_enter func194,ntmps194;go_wp2_with fail;have b3:=H.out.step (w':=w.alloc (.cells #[.pointer (some ⟨g,0,none⟩)] 249)) (aZ (Ag _ _));have bu:Blk (w.alloc (.cells #[.pointer (some ⟨g,0,none⟩)] 249)) w 249 #[.pointer (some ⟨g,0,none⟩)]:=Blk.made _ _ _;have bm:Kept (BD g w) w (w.alloc (.cells #[.pointer (some ⟨g,0,none⟩)] 249)):=Kept.of_below (B:=w.heap.size) (aZ (Ag _ _)) (fun x hx=>hx.1);generalize w.alloc (.cells #[.pointer (some ⟨g,0,none⟩)] 249)=w1 at *;have z1:=bm.size;have cf:=bu.lt;have cd:=hid b3;have ca:=hid bu;have b0:=hid bm;have bn:w.heap.size≠g:=mz
 clear b3 bu bm H;go_loopw [5] (fun v wr=>∃ (a1:Nat) (er:Int) (p:Nat) (j:List Nat),p<=n/\Hid (j.length=p)/\Hid (Cur wr g base bs A c a1 er)/\Hid (wr.ownsRow w1 5 1 v p (cZ .u8 j))/\Hid (Kept (fun x=>x<w1.heap.size/\x≠g) w1 wr)/\Hid (er=0->∃f,n<=f+p/\Ff f n bs a1 j=T)/\Hid (er≠0->T=([],a1,er))) (fun v wr=>(n-lenS v)+if FX wr g=0 then 1 else 0)
 case atStart=>exact⟨at_,av,0,[],mz,rfl,cd.out,AK _ _ _ _,Kept.refl _ _,bl.out.1,bl.out.2⟩
 case round=>
  obtain⟨a1,er,p,j,hp,HP,HC,HO,HK,HT,HE⟩:=hrel;have zk:=HK.out.size;obtain⟨va,vc,rfl⟩:=bZ HO.out;have xb:Blk wr w 249 #[.pointer (some ⟨g,0,none⟩)]:=(HK.out.block _ ⟨cf,bn⟩).trans ca.out;have x0:=xb.ia 0;have XB:=hid xb;have ba:Hid (FX wr g=er):=by show _=_;unfold FX;rw[HC.out.cells.2.2];rfl
  clear xb bl;by_cases cj:p<n
  ·have g1:=ic ((p:Int)<n);have ci:=ic (p<n);have DE:=hid (Dv wr g base bs A c a1 er HC.out);by_cases he:er=0
   ·subst he;obtain⟨f,hf,a9⟩:=HT.out rfl;obtain⟨f,rfl⟩:∃f',f=f'+1:=⟨f-1,mz⟩;rw[Ff,Ab (by rw[HP.out];omega),HP.out]at a9;obtain⟨m,hm⟩:=ii (n-p);have sm:IntKind.i64.wrap ((n:Int)-(p:Int))=(m:Int):=nW;rw[<-hm]at a9;have cm:=hid hm;have cr:p+m<=n/\m<=20000:=mz;clear hm;have D1:=hid (fun wx hx=>Vv wx g base bs A c a1 0 b4.out hx);have cl:Ba m bs (takeA bs a1 0 1) (BQ bs a1 0 1)<=m:=Gb H8.out _ _;have ct:Hid (AO m bs (takeA bs a1 0 1) (BQ bs a1 0 1)≠0->Ba m bs (takeA bs a1 0 1) (BQ bs a1 0 1)=0):=aE H8.out _ _;unfold KV Ic at a9;simp only at a9;have D2:=hid (fun wx hx=>IG wx g base bs A c (takeA bs a1 0 1) (BQ bs a1 0 1) m b4.out H8.out mz hx);generalize GE bs a1 0=x at *;generalize takeA bs a1 0 1=b1 at *;generalize BQ bs a1 0 1=d1 at *;generalize Ba m bs b1 d1=k at *;generalize AM m bs b1 d1=a2 at *;generalize AO m bs b1 d1=e2 at *;have a0:k<=100000:=mz;have DR:=hid (fun wx gx cx y kk hkk hb=>aO wx gx cx y kk hkk hb);have ax:=hid a9;have HF:=hid hf;clear a9 HT HE hf;go_wp2_with fail;refine DE.out.mono ?_;rintro e w2 ⟨rfl,rfl⟩;go_wp2_with fail;refine(D1.out _ HC.out).mono ?_;rintro e w3 ⟨rfl,b8,bb⟩;have z3:=bb.size;have bx:=hid b8;have b7:Hid (w3.ownsRow w1 5 1 (.slice va p vc) p (cZ .u8 j)):=Mf HO.out mz bb;have b5:Hid (Kept (fun x=>x<w1.heap.size/\x≠g) w1 w3):=PC HK.out zk bb;have bt:=hid (Ma XB.out bn bb);have x3:=bt.out.ia 0;clear b8 bb x0 HC HO HK DE D1 XB;go_wp2_with fail;refine(D2.out _ bx.out).mono ?_;rintro e w4 ⟨rfl,bN,be⟩;have z4:=be.size;have al:=hid bN;have af:Hid (w4.ownsRow w1 5 1 (.slice va p vc) p (cZ .u8 j)):=Mf b7.out mz be;have am:Hid (Kept (fun x=>x<w1.heap.size/\x≠g) w1 w4):=PC b5.out mz be;have bp:=hid (Ma bt.out bn be);have x4:=bp.out.ia 0;have cc:=hid (Dv w4 g base bs A c a2 e2 al.out);clear bN be x3 bx b7 b5 D2 bt;go_wp2_with fail;refine cc.out.mono ?_;rintro e w5 ⟨rfl,rfl⟩;by_cases a5:e2=0
    ·subst a5;have aa:=ax.out;rw[Ab (show ¬((0:Int)≠0) from fun h=>h rfl)]at aa;by_cases a4:k=0
     ·have gk:((k:Int)==0)=true:=(by rw[a4];rfl);obtain⟨i,J⟩:=ii (Ga 0 2);have ag:i=2:=J.trans (Ae rfl);have aj:Hid ((i=0->∃f',n<=f'+(p+k)/\Ff f' n bs a2 (j++List.replicate k x)=T)/\(i≠0->T=([],a2,i))):=⟨fun h=>absurd (ag.symm.trans h) ip,fun _=>by rw[Ae (Or.inl a4),Ae ip]at aa;rw[ag];exact aa.symm⟩;have aq:Hid (n-(p+k)+(if i=0 then 1 else 0)<n-p+1):=(by show _<_;rw[Ab (by rw[ag];decide)];omega);have DF:=hid (GR w5 g base bs A c a2 0 2 al.out);rw[<-J]at DF;clear aa ag J ax a4;go_wp2_with fail;refine DF.out.mono ?_;rintro e w6 ⟨rfl,bc,a6⟩;have U:Hid (w6.ownsRow w1 5 1 _ p (cZ .u8 j)):=eZ af.out (fun z hz=>a6.block z (by have:=(Am af.out z hz).1;omega));have Y:Hid (Kept (fun x=>x<w1.heap.size/\x≠g) w1 w6):=am.out.trans (Jc a6 fun z hz=>hz.2);have ai:=hid bc;clear af am al a6 bc DF bp x4 z4;obtain⟨w5,rfl⟩:=ii w6;have z5:=Y.out.size;go_wp2_with fail;have bq:Blk (w5.alloc (.cells #[.int .u8 (x:Nat)] 5)) w5 5 #[.int .u8 (x:Nat)]:=Blk.made _ _ _;refine(DR.out _ _ _ x k a0 bq).mono ?_;rintro e w6 ⟨v6,rfl,Z,G⟩;obtain⟨A6,c6,rfl⟩:=bZ Z;have z6:=G.size;simp at z6;have ar:Hid (Src w6 A6 k c6 1 (cZ .u8 (List.replicate k x))):=Lk Z;have ae:Hid (w6.ownsRow w1 5 1 _ p (cZ .u8 j)):=eZ (U.out.alloc _) (fun y hy=>G.block y kz);have ab:Cur w6 g base bs A c a2 i:=ai.out.step ((aZ (Ag _ _)).trans (G.mono pI));have ac:Hid (Kept (fun x=>x<w1.heap.size/\x≠g) w1 w6):=Y.out.trans (Kept.of_below ((aZ (Ag _ _)).trans (G.mono pI)) (fun y hy=>by have:=hy.1;omega));have au:=hid ab;clear Z G bq ab ai U Y DR;go_wp2_with(at_builtin;refine iZ rfl (.tmp 54) (.tmp 58) 28 rfl w1 5 j0 _ 1 1 underlying28 bi bj bf bg rfl ip _ _ _ nc ae.out _ _ _ _ nc ar.out (Cq _ _) qg mz mz ?_;intro v7 w7 E M ah);obtain⟨A7,c7,rfl⟩:=bZ E;have Q:=fun(y:Nat) hy=>(Am ae.out y hy).1;have z7:=ac.out.size;have N:Cur w7 g base bs A c a2 i:=JM au.out M w1 mz (fun y hy=>by have:=bd.out y hy;omega) Q;have an:Hid (Kept (fun x=>x<w1.heap.size/\x≠g) w1 w7):=ac.out.grown M (fun y hy=>by have:=hy.1;omega) (fun y hy hh=>by have:=Q y hy;have:=hh.1;omega);have az:Hid (w7.ownsRow w1 5 1 (.slice A7 (p+k) c7) (p+k) (cZ .u8 (j++List.replicate k x))):=pn;have ay:=hid N;have aw:Hid (FX w7 g=i):=pE;clear E M ah Q N;go_roundw
      case measure=>exact jn
      case rel=>exact iz
     ·have gk:((k:Int)==0)=false:=n8;have cv:(k==0)=false:=n8;by_cases bS:p=0
      ·have gp:=ig ((0:Int)<p);have b9:=ig (0<p);have bk:¬(k=0∨j.getLast?=some x):=fun h=>h.elim a4 (fun h=>by rw[Gr (HP.out.trans bS)]at h;cases h);obtain⟨i,J⟩:∃i:Int,i=0:=⟨_,rfl⟩;have aj:Hid ((i=0->∃f',n<=f'+(p+k)/\Ff f' n bs a2 (j++List.replicate k x)=T)/\(i≠0->T=([],a2,i))):=⟨fun _=>⟨f,lj,by rw[Ab bk,Ab (show ¬((0:Int)≠0) from fun h=>h rfl)]at aa;exact aa⟩,fun h=>absurd J h⟩;have aq:Hid (n-(p+k)+(if i=0 then 1 else 0)<n-p+1):=(by show _<_;rw[Ae J];omega);have ak:Hid (Cur w5 g base bs A c a2 i):=(by rw[J];exact al.out);clear aa J ax a4 bk bS;have ai:=ak;have U:=af;have Y:=am;clear al af am ak;have z5:=Y.out.size;go_wp2_with fail;have bq:Blk (w5.alloc (.cells #[.int .u8 (x:Nat)] 5)) w5 5 #[.int .u8 (x:Nat)]:=Blk.made _ _ _;refine(DR.out _ _ _ x k a0 bq).mono ?_;rintro e w6 ⟨v6,rfl,Z,G⟩;obtain⟨A6,c6,rfl⟩:=bZ Z;have z6:=G.size;simp at z6;have ar:Hid (Src w6 A6 k c6 1 (cZ .u8 (List.replicate k x))):=Lk Z;have ae:Hid (w6.ownsRow w1 5 1 _ p (cZ .u8 j)):=eZ (U.out.alloc _) (fun y hy=>G.block y kz);have ab:Cur w6 g base bs A c a2 i:=ai.out.step ((aZ (Ag _ _)).trans (G.mono pI));have ac:Hid (Kept (fun x=>x<w1.heap.size/\x≠g) w1 w6):=Y.out.trans (Kept.of_below ((aZ (Ag _ _)).trans (G.mono pI)) (fun y hy=>by have:=hy.1;omega));have au:=hid ab;clear Z G bq ab ai U Y DR;go_wp2_with(at_builtin;refine iZ rfl (.tmp 54) (.tmp 58) 28 rfl w1 5 j0 _ 1 1 underlying28 bi bj bf bg rfl ip _ _ _ nc ae.out _ _ _ _ nc ar.out (Cq _ _) qg mz mz ?_;intro v7 w7 E M ah);obtain⟨A7,c7,rfl⟩:=bZ E;have Q:=fun(y:Nat) hy=>(Am ae.out y hy).1;have z7:=ac.out.size;have N:Cur w7 g base bs A c a2 i:=JM au.out M w1 mz (fun y hy=>by have:=bd.out y hy;omega) Q;have an:Hid (Kept (fun x=>x<w1.heap.size/\x≠g) w1 w7):=ac.out.grown M (fun y hy=>by have:=hy.1;omega) (fun y hy hh=>by have:=Q y hy;have:=hh.1;omega);have az:Hid (w7.ownsRow w1 5 1 (.slice A7 (p+k) c7) (p+k) (cZ .u8 (j++List.replicate k x))):=pn;have ay:=hid N;have aw:Hid (FX w7 g=i):=pE;clear E M ah Q N;go_roundw
       case measure=>exact jn
       case rel=>exact iz
      ·obtain⟨gq,cq,ce,cu,_⟩:=af.out.form mz;injection ce with e1 e2 e3;subst e1 e3;obtain⟨y,hy⟩:∃y,j[p-1]? =some y:=⟨_,AD lq⟩;have a3:j.getLast?=some y:=by rw[List.getLast?_eq_getElem?,HP.out];exact hy
       have cy:w5.cell? ⟨gq,p-1,none⟩=some (.int .u8 (y:Nat)):=(by rw[af.out.cellAt (p-1) mz];unfold cZ;rw[BE,hy];rfl);obtain⟨p1,b6⟩:=ii (p-1);rw[<-b6]at cy;have sp:IntKind.i64.wrap ((p:Int)-1)=(p1:Int):=nW;have gp:=ic ((0:Int)<p);have b9:=ic (0<p);have cw:(0:Int)<=(p1:Int):=mz;have cp:(p1:Int)<(p:Int):=mz;clear hy b6;by_cases bh:y=x
       ·have gx:((y:Int)==(x:Int))=true:=(by rw[bh];simp);rw[bh]at a3;clear bh;obtain⟨i,J⟩:=ii (Ga 0 2);have ag:i=2:=J.trans (Ae rfl);have aj:Hid ((i=0->∃f',n<=f'+(p+k)/\Ff f' n bs a2 (j++List.replicate k x)=T)/\(i≠0->T=([],a2,i))):=⟨fun h=>absurd (ag.symm.trans h) ip,fun _=>by rw[Ae (Or.inr a3),Ae ip]at aa;rw[ag];exact aa.symm⟩;have aq:Hid (n-(p+k)+(if i=0 then 1 else 0)<n-p+1):=(by show _<_;rw[Ab (by rw[ag];decide)];omega);have DF:=hid (GR w5 g base bs A c a2 0 2 al.out);rw[<-J]at DF;clear aa ag J ax a3 a4;go_wp2_with fail;refine DF.out.mono ?_;rintro e w6 ⟨rfl,bc,a6⟩;clear cy;have U:Hid (w6.ownsRow w1 5 1 _ p (cZ .u8 j)):=eZ af.out (fun z hz=>a6.block z (by have:=(Am af.out z hz).1;omega));have Y:Hid (Kept (fun x=>x<w1.heap.size/\x≠g) w1 w6):=am.out.trans (Jc a6 fun z hz=>hz.2);have ai:=hid bc;clear af am al a6 bc DF bp x4 z4;obtain⟨w5,rfl⟩:=ii w6;have z5:=Y.out.size;go_wp2_with fail;have bq:Blk (w5.alloc (.cells #[.int .u8 (x:Nat)] 5)) w5 5 #[.int .u8 (x:Nat)]:=Blk.made _ _ _;refine(DR.out _ _ _ x k a0 bq).mono ?_;rintro e w6 ⟨v6,rfl,Z,G⟩;obtain⟨A6,c6,rfl⟩:=bZ Z;have z6:=G.size;simp at z6;have ar:Hid (Src w6 A6 k c6 1 (cZ .u8 (List.replicate k x))):=Lk Z;have ae:Hid (w6.ownsRow w1 5 1 _ p (cZ .u8 j)):=eZ (U.out.alloc _) (fun y hy=>G.block y kz);have ab:Cur w6 g base bs A c a2 i:=ai.out.step ((aZ (Ag _ _)).trans (G.mono pI));have ac:Hid (Kept (fun x=>x<w1.heap.size/\x≠g) w1 w6):=Y.out.trans (Kept.of_below ((aZ (Ag _ _)).trans (G.mono pI)) (fun y hy=>by have:=hy.1;omega));have au:=hid ab;clear Z G bq ab ai U Y DR;go_wp2_with(at_builtin;refine iZ rfl (.tmp 54) (.tmp 58) 28 rfl w1 5 j0 _ 1 1 underlying28 bi bj bf bg rfl ip _ _ _ nc ae.out _ _ _ _ nc ar.out (Cq _ _) qg mz mz ?_;intro v7 w7 E M ah);obtain⟨A7,c7,rfl⟩:=bZ E;have Q:=fun(y:Nat) hy=>(Am ae.out y hy).1;have z7:=ac.out.size;have N:Cur w7 g base bs A c a2 i:=JM au.out M w1 mz (fun y hy=>by have:=bd.out y hy;omega) Q;have an:Hid (Kept (fun x=>x<w1.heap.size/\x≠g) w1 w7):=ac.out.grown M (fun y hy=>by have:=hy.1;omega) (fun y hy hh=>by have:=Q y hy;have:=hh.1;omega);have az:Hid (w7.ownsRow w1 5 1 (.slice A7 (p+k) c7) (p+k) (cZ .u8 (j++List.replicate k x))):=pn;have ay:=hid N;have aw:Hid (FX w7 g=i):=pE;clear E M ah Q N;go_roundw
        case measure=>exact jn
        case rel=>exact iz
       ·have gx:((y:Int)==(x:Int))=false:=n8;obtain⟨i,J⟩:∃i:Int,i=0:=⟨_,rfl⟩;have bk:¬(k=0∨j.getLast?=some x):=fun h=>h.elim a4 (fun h=>by rw[a3]at h;injection h with h;exact bh h);have aj:Hid ((i=0->∃f',n<=f'+(p+k)/\Ff f' n bs a2 (j++List.replicate k x)=T)/\(i≠0->T=([],a2,i))):=⟨fun _=>⟨f,lj,by rw[Ab bk,Ab pI]at aa;exact aa⟩,fun h=>absurd J h⟩;have aq:Hid (n-(p+k)+(if i=0 then 1 else 0)<n-p+1):=(by show _<_;rw[Ae J];omega);have ak:Hid (Cur w5 g base bs A c a2 i):=(by rw[J];exact al.out);clear aa J ax a3 bk bh a4;have ai:=ak;have U:=af;have Y:=am;clear al af am ak;have z5:=Y.out.size;go_wp2_with fail;have bq:Blk (w5.alloc (.cells #[.int .u8 (x:Nat)] 5)) w5 5 #[.int .u8 (x:Nat)]:=Blk.made _ _ _;refine(DR.out _ _ _ x k a0 bq).mono ?_;rintro e w6 ⟨v6,rfl,Z,G⟩;obtain⟨A6,c6,rfl⟩:=bZ Z;have z6:=G.size;simp at z6;have ar:Hid (Src w6 A6 k c6 1 (cZ .u8 (List.replicate k x))):=Lk Z;have ae:Hid (w6.ownsRow w1 5 1 _ p (cZ .u8 j)):=eZ (U.out.alloc _) (fun y hy=>G.block y kz);have ab:Cur w6 g base bs A c a2 i:=ai.out.step ((aZ (Ag _ _)).trans (G.mono pI));have ac:Hid (Kept (fun x=>x<w1.heap.size/\x≠g) w1 w6):=Y.out.trans (Kept.of_below ((aZ (Ag _ _)).trans (G.mono pI)) (fun y hy=>by have:=hy.1;omega));have au:=hid ab;clear Z G bq ab ai U Y DR;go_wp2_with(at_builtin;refine iZ rfl (.tmp 54) (.tmp 58) 28 rfl w1 5 j0 _ 1 1 underlying28 bi bj bf bg rfl ip _ _ _ nc ae.out _ _ _ _ nc ar.out (Cq _ _) qg mz mz ?_;intro v7 w7 E M ah);obtain⟨A7,c7,rfl⟩:=bZ E;have Q:=fun(y:Nat) hy=>(Am ae.out y hy).1;have z7:=ac.out.size;have N:Cur w7 g base bs A c a2 i:=JM au.out M w1 mz (fun y hy=>by have:=bd.out y hy;omega) Q;have an:Hid (Kept (fun x=>x<w1.heap.size/\x≠g) w1 w7):=ac.out.grown M (fun y hy=>by have:=hy.1;omega) (fun y hy hh=>by have:=Q y hy;have:=hh.1;omega);have az:Hid (w7.ownsRow w1 5 1 (.slice A7 (p+k) c7) (p+k) (cZ .u8 (j++List.replicate k x))):=pn;have ay:=hid N;have aw:Hid (FX w7 g=i):=pE;clear E M ah Q N;go_roundw
        case measure=>exact jn
        case rel=>exact iz
    ·have gE:(e2==0)=false:=(by simpa using a5);have aa:=ax.out;rw[Ae a5,Ae a5]at aa;have aj:Hid ((e2=0->∃f',n<=f'+(p+k)/\Ff f' n bs a2 (j++List.replicate k x)=T)/\(e2≠0->T=([],a2,e2))):=⟨fun h=>absurd h a5,fun _=>aa.symm⟩;have aq:Hid (n-(p+k)+(if e2=0 then 1 else 0)<n-p+1):=(by show _<_;rw[Ab a5];omega);have ak:Hid (Cur w5 g base bs A c a2 e2):=al.out;clear aa ax a5;obtain⟨i,rfl⟩:=ii e2;have ai:=ak;have U:=af;have Y:=am;clear al af am ak;have z5:=Y.out.size;go_wp2_with fail;have bq:Blk (w5.alloc (.cells #[.int .u8 (x:Nat)] 5)) w5 5 #[.int .u8 (x:Nat)]:=Blk.made _ _ _;refine(DR.out _ _ _ x k a0 bq).mono ?_;rintro e w6 ⟨v6,rfl,Z,G⟩;obtain⟨A6,c6,rfl⟩:=bZ Z;have z6:=G.size;simp at z6;have ar:Hid (Src w6 A6 k c6 1 (cZ .u8 (List.replicate k x))):=Lk Z;have ae:Hid (w6.ownsRow w1 5 1 _ p (cZ .u8 j)):=eZ (U.out.alloc _) (fun y hy=>G.block y kz);have ab:Cur w6 g base bs A c a2 i:=ai.out.step ((aZ (Ag _ _)).trans (G.mono pI));have ac:Hid (Kept (fun x=>x<w1.heap.size/\x≠g) w1 w6):=Y.out.trans (Kept.of_below ((aZ (Ag _ _)).trans (G.mono pI)) (fun y hy=>by have:=hy.1;omega));have au:=hid ab;clear Z G bq ab ai U Y DR;go_wp2_with(at_builtin;refine iZ rfl (.tmp 54) (.tmp 58) 28 rfl w1 5 j0 _ 1 1 underlying28 bi bj bf bg rfl ip _ _ _ nc ae.out _ _ _ _ nc ar.out (Cq _ _) qg mz mz ?_;intro v7 w7 E M ah);obtain⟨A7,c7,rfl⟩:=bZ E;have Q:=fun(y:Nat) hy=>(Am ae.out y hy).1;have z7:=ac.out.size;have N:Cur w7 g base bs A c a2 i:=JM au.out M w1 mz (fun y hy=>by have:=bd.out y hy;omega) Q;have an:Hid (Kept (fun x=>x<w1.heap.size/\x≠g) w1 w7):=ac.out.grown M (fun y hy=>by have:=hy.1;omega) (fun y hy hh=>by have:=Q y hy;have:=hh.1;omega);have az:Hid (w7.ownsRow w1 5 1 (.slice A7 (p+k) c7) (p+k) (cZ .u8 (j++List.replicate k x))):=pn;have ay:=hid N;have aw:Hid (FX w7 g=i):=pE;clear E M ah Q N;go_roundw
     case measure=>exact jn
     case rel=>exact iz
   ·have g2:(er==0)=false:=p7;have ax:=hid (HE.out he);have cg:=hid he;clear he HT HE;go_wp2_with fail;refine DE.out.mono ?_;rintro e w2 ⟨rfl,rfl⟩;go_wp2_with fail;go_ret;rw[ax.out];refine⟨_,j,rfl,ox,oy,HC.out,b0.out.trans (Jc HK.out fun x hx=>⟨mg,hx.2⟩),fun h=>absurd h cg.out⟩
  ·obtain rfl:p=n:=by omega
   have HF:Hid (a1=T.2.1/\er=T.2.2/\(T.2.2=0->j=T.1)):=by
    by_cases he:er=0
    ·subst he;obtain⟨f,_,h⟩:=HT.out rfl;rw[Rh (by rw[HP.out];exact Aq _)]at h;rw[<-h];exact⟨rfl,rfl,fun _=>rfl⟩
    ·have h:=HE.out he;rw[h];exact⟨rfl,rfl,fun h0=>absurd h0 he⟩
   have g1:=ig ((p:Int)<p);clear HT HE;go_wp2_with fail;go_ret;refine⟨_,j,rfl,ox,oy,by rw[<-HF.out.1,<-HF.out.2.1];exact HC.out,b0.out.trans (Jc HK.out fun x hx=>⟨mg,hx.2⟩),HF.out.2.2⟩
end Recs
namespace Recs
open Go.RowKit Mem Own Canon NumPut Nums
def JN(n:Nat)(bs:List Nat)(T:List Nat×Nat×Int):List Nat×Nat×Int:=if T.2.2≠0 then([],T.2.1,T.2.2)else Ff n n bs T.2.1 []
def MM(T L:List Nat×Nat×Int):List Nat×List Nat×Nat×Int:=if L.2.2≠0 then([],[],0,L.2.2)else(T.1,L.1,L.2.1,0)
def Ee(n:Nat)(bs:List Nat):List Nat×List Nat×Nat×Int:=MM (FO n bs 0 0 []) (JN n bs (FO n bs 0 0 []))
theorem ZB{bs:List Nat}{T:List Nat×Nat×Int}(h:(JN n bs T).2.2=0):T.2.2=0:=by
 by_cases e:T.2.2=0
 ·exact e
 ·unfold JN at h;rw[Ae e]at h;exact h
theorem TY{fn:Func}{t u v x:Tmp}(h:fn.results=#[.tmp t, .tmp u, .tmp v, .tmp x])(i:Array Value)(P:Program)(w:World):
 (results fn i).run P w= .ok (.tuple #[i.getD t undef,i.getD u undef,i.getD v undef,i.getD x undef]) w:=by
 simp[results,h]
def Pb(R:List Nat×List Nat×Nat×Int)(w:World)(e:Ending)(w':World):Prop:=
 ∃vt vl,e= .returned (.tuple #[vt,vl, .int .i64 (R.2.2.1:Nat),R.2.2.2])/\w'.ownsRow w 41 1 vt R.1.length (cZ .u64 R.1)/\w'.ownsRow w 5 1 vl R.2.1.length (cZ .u8 R.2.1)/\Below w w w'
theorem Z8(w:World)(A:Option Addr)(n c:Nat)(bs:List Nat)(k:Nat)(hn:bs.length=n)(ag:n<=100000)(h8:∀x∈bs,x<=255)(E:A=none->n=0/\c=0)(ha:Row w w A n 1 (jZ .u8 bs))(hk:k<=20000):
 Calls prog 116 #[.int .i64 (k:Nat), .slice A n c] w (Pb (Ee k bs) w):=by
 have D0:=hid (new_any w A n c bs hn ag E ha);have M:bs.length<=100000:=mz
 have D1:=hid (fun wx g base B d h=>dN wx g base bs B d 0 k M h8 hk h);have D2:=hid (fun wx g base B d at_ er h=>Z3 wx g base bs B d at_ k er M h8 hk h);have a3:=ig ((k:Int)<0)
 have a4:=ig ((20000:Int)<k)
 have ay:=ig (20000<k)
 unfold Ee;obtain⟨T,hT⟩:=ii (FO k bs 0 0 []);rw[<-hT]at D1 ⊢;have N:=hid (fun h=>ZB (n:=k) (bs:=bs) (T:=T) h);have HL:Hid (∀at_ er,at_=T.2.1->er=T.2.2->(if er≠0 then([],at_,er)else Ff k k bs at_ [])=JN k bs T):=fun at_ er h1 h2=>by subst h1 h2;rfl
 unfold Pb;clear hn E ha h8 ag hT;generalize JN k bs T=L at *;obtain⟨tl,ta,te⟩:=T;obtain⟨ll,la,le⟩:=L;simp only at *;go_enter func116,ntmps116;go_wp2_with fail;refine D0.out.mono ?_;rintro e w1 ⟨g,B,d,rfl,z,Y⟩;have z1:=Y.size;have a6:=z.blk.lt;have a1:=z.lo;have ah:=hid z;have aj:=hid Y;clear z Y D0;go_wp2_with fail;have aa:=ah.out.step (w':=w1.alloc (.cells #[.pointer (some ⟨g,0,none⟩)] 249)) qh;have ar:Blk (w1.alloc (.cells #[.pointer (some ⟨g,0,none⟩)] 249)) w1 249 #[.pointer (some ⟨g,0,none⟩)]:=Blk.made _ _ _;have Q:Below w w (w1.alloc (.cells #[.pointer (some ⟨g,0,none⟩)] 249)):=mZ z1 aj.out;generalize w1.alloc (.cells #[.pointer (some ⟨g,0,none⟩)] 249)=w2 at *;have z2:=Q.size;have an:w1.heap.size≠g:=mz
 have az:=aa.blk.lt;have av:=hid ar;have ax:=hid Q;have DT:=hid (D1.out w2 g w B d aa);clear aa ar Q ah aj D1;refine DT.out.mono ?_;rintro e w3 ⟨vt,i,rfl,a5,Z,aw,y,au⟩;obtain⟨At,ct,rfl⟩:=bZ Z;have ac:=hid (Ma av.out an y);have x3:=ac.out.ia 0;have G:=hid Z;have z3:=y.size;have am:Hid (Below w w w3):=ax.out.trans (y.below fun b h=>⟨mz,mz⟩);have af:=hid au;have DL:=hid (D2.out w3 g w B d ta te aw);rw[HL.out ta te rfl rfl]at DL;clear Z aw y au DT av ax D2 HL;go_wp2_with fail;refine DL.out.mono ?_;rintro e w4 ⟨vl,ai,rfl,a9,ae,U,j,J⟩;obtain⟨Al,cl,rfl⟩:=bZ ae;have a0:=hid (Ma ac.out an j);have x4:=a0.out.ia 0;have z4:=j.size;have aq:Hid (w4.ownsRow w 41 1 (.slice At i.length ct) i.length (cZ .u64 i)):=kZ (Mf G.out az j) z2;have al:=hid (kZ ae (by omega:w.heap.size<=w3.heap.size));have ak:Hid (Below w w w4):=am.out.trans (j.below fun b h=>⟨mz,mz⟩);have ab:=hid J;have DE:=hid (Dv w4 g w bs B d la le U);have DA:=hid (Kd w4 g w bs B d la le U);clear ae U j J DL ac G am x3;go_wp2_with fail;refine DE.out.mono ?_;rintro e w5 ⟨rfl,rfl⟩;by_cases he:le=0
 ·subst he;have et:=af.out (N.out rfl);have el:=ab.out rfl;have hR:MM (tl,ta,te) (ll,la,0)=(i,ai,la,0):=by rw[et,el];exact Ab (by simp)
  have HR:=hid hR;clear et el hR af ab N;go_wp2_with fail;refine DA.out.mono ?_;rintro e w6 ⟨rfl,rfl⟩;go_wp2_with fail;rw[HR.out];refine CI (TY rfl _ _ _) rfl ?_;exact⟨_,_,rfl,aq.out,al.out,ak.out⟩
 ·have g1:(le != 0)=true:=by simpa using he
  have HR:Hid (MM (tl,ta,te) (ll,la,le)=([],[],0,le)):=Ae he;clear he af ab N;go_wp2_with fail;rw[HR.out];refine CI (TY rfl _ _ _) rfl ?_;exact⟨_,_,rfl,AK _ _ _ _,AK _ _ _ _,ak.out⟩
end Recs
namespace Body
open Go.RowKit Mem Own Canon Nums Crc Recs
def Hy(k:Nat)(ls:List Nat):Int:=if CL ls≠0 then CL ls else if(Ee k (Br ls)).2.2.2≠0 then(Ee k (Br ls)).2.2.2 else if(Ee k (Br ls)).2.2.1<(Br ls).length then 2 else 0
theorem Qc(h8:∀x∈ls,x<=255):∀x∈Br ls,x<=255:=fun x hx=>by
 unfold Br at hx;split at hx
 ·exact h8 x (C7 hx)
 ·simp at hx
theorem P0(ls:List Nat):(Br ls).length<=ls.length:=by
 unfold Br;split
 ·rw[Bd];omega
 ·simp
def Pv(w:World)(gb:Nat)(t:TypeId)(cs:Array Value)(k:Nat)(ls:List Nat)(e:Ending)(w':World):Prop:=
 e= .returned (.int .i64 (Hy k ls))/\Kept (fun x=>x<w.heap.size/\x≠gb) w w'/\(Hy k ls=0->∃vt vl,Blk w' gb t ((cs.setIfInBounds 4 vt).setIfInBounds 5 vl)/\w'.ownsRow w 41 1 vt (Ee k (Br ls)).1.length (cZ .u64 (Ee k (Br ls)).1)/\w'.ownsRow w 5 1 vl (Ee k (Br ls)).2.1.length (cZ .u8 (Ee k (Br ls)).2.1))
theorem Y9(w:World)(gb:Nat)(t:TypeId)(cs:Array Value)(A:Option Addr)(n c k:Nat)(ls:List Nat)(hB:Blk w gb t cs)(ay:6<=cs.size)(af:41≠t)(ai:5≠t)(hn:ls.length=n)(aq:n<=100000)(hc:n<=c)(h8:∀x∈ls,x<=255)(ht:TabAt w)(ha:Row w w A n 1 (jZ .u8 ls))(hk:k<=20000):
 Calls prog 59 #[.pointer (some ⟨gb,4,none⟩), .int .i64 (k:Nat), .slice A n c] w (Pv w gb t cs k ls):=by
 have D0:=Mj w A n c ls hn aq hc h8 ht ha;unfold Jh at D0;have ax:=hB.lt;have ak:=Qc h8;have az:=P0 ls;unfold Pv;obtain⟨R,hR⟩:=ii (Hy k ls);rw[<-hR];unfold Hy at hR;generalize CL ls=ce at *;generalize Br ls=co at *;have aw:co.length<=100000:=mz
 have DR:=hid (fun wx (Ax:Option Addr) (cx:Nat) (hnx:Ax=none->co.length=0/\cx=0) (hax:Row wx wx Ax co.length 1 (jZ .u8 co))=>Z8 wx Ax co.length cx co k rfl mz ak hnx hax hk);generalize Ee k co=C at *;obtain⟨ct,cl,ck,Z⟩:=C;unfold Pb at DR;simp only at hR DR;have D0:=hid D0;have HR:=hid hR;have au:=hid hB;clear hn hc h8 ht ha hR ak hB;go_enter func59,ntmps59;go_wp2_with fail;refine D0.out.mono ?_;rintro e w1 ⟨v,rfl,i,J⟩;obtain⟨Ac,cc,rfl⟩:=bZ i;have z:=hid J;have ag:Hid (Kept (fun x=>x<w.heap.size/\x≠gb) w w1):=Kept.of_below J (fun x hx=>hx.1);by_cases E:ce=0
 ·subst E;have hr:=HR.out;rw[Ab (show ¬((0:Int)≠0) from fun h=>h rfl)]at hr;have G:=hid hr;have D1:=hid (DR.out w1 Ac cc (Jl i) (own_row i));obtain⟨m,hm⟩:=ii co.length;rw[<-hm]at D1 hr aw;have HM:=hid hm;clear i J hr DR D0 HR;rw[<-hm];clear hm;go_wp2_with fail;refine D1.out.mono ?_;rintro e w2 ⟨vt,vl,rfl,U,ab,ae⟩;obtain⟨At,nt,rfl⟩:=bZ U;obtain⟨Al,nl,rfl⟩:=bZ ab;have an:Hid (Below w w w2):=z.out.trans (ae.mono z.out.size);have y:=hid (au.out.step (an.out));have al:=hid (kZ U z.out.size);have am:=hid (kZ ab z.out.size);have Y:Hid (Kept (fun x=>x<w.heap.size/\x≠gb) w w2):=Kept.of_below an.out (fun x hx=>hx.1);clear U ab ae D1 z ag;by_cases j:Z=0
  ·subst j;have hr:=G.out;rw[Ab (show ¬((0:Int)≠0) from fun h=>h rfl),<-HM.out]at hr;by_cases M:ck<m
   ·have g1:=ic ((ck:Int)<m);have ar:=ic (ck<m);have HF:Hid (R=2):=(by rw[Ae M]at hr;exact hr);clear hr G M;go_wp2_with fail;go_ret;rw[HF.out];exact⟨rfl,Y.out,fun h=>absurd h ip⟩
   ·have g1:=ig ((ck:Int)<m);have ar:=ig (ck<m);have HF:Hid (R=0):=(by rw[Ab M]at hr;exact hr);have q4:=y.out.cell 4;have q5:=y.out.cell 5;rw[Ki mz]at q4 q5;generalize cs[4]=o4 at q4;generalize cs[5]=o5 at q5;have f4:=y.out.frozen 4;have f5:=y.out.frozen 5;have aa:=hid (y.out.set 4 (.slice At ct.length nt));have N:=hid (BZ (p:=⟨gb,4,none⟩) al.out (gZ al.out y.out af) (.slice At ct.length nt));have Q:=hid (BZ (p:=⟨gb,4,none⟩) am.out (gZ am.out y.out ai) (.slice At ct.length nt));have av:=hid (aa.out.set 5 (.slice Al cl.length nl));have aj:=hid (BZ (p:=⟨gb,5,none⟩) N.out (gZ N.out aa.out af) (.slice Al cl.length nl));have ah:=hid (BZ (p:=⟨gb,5,none⟩) Q.out (gZ Q.out aa.out ai) (.slice Al cl.length nl));clear hr G M;go_wp2_with fail;go_ret;rw[HF.out];exact⟨rfl,(Y.out.set (fun h=>h.2 rfl) _).set (fun h=>h.2 rfl) _,fun _=>⟨_,_,av.out,aj.out,ah.out⟩⟩
  ·have gE:(Z != 0)=true:=(by simpa using j);have HF:Hid (R=Z):=(by have h:=G.out;rw[Ae j]at h;exact h);have ac:=hid j;clear j G;go_wp2_with fail;go_ret;rw[HF.out];exact⟨rfl,Y.out,fun h=>absurd h ac.out⟩
 ·have gE:(ce != 0)=true:=by simpa using E
  have HF:Hid (R=ce):=by have h:=HR.out;rw[Ae E]at h;exact h
  have ac:=hid E;clear E HR i J DR D0;go_wp2_with fail;go_ret;rw[HF.out];exact⟨rfl,ag.out,fun h=>absurd h ac.out⟩
end Body
end Go.Proofs.YtfgdoknipbpfhaaGreatDoor
