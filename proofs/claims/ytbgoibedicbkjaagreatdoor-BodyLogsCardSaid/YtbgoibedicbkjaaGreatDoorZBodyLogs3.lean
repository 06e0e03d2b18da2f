/- The walk of the libr -/
import Derived.Test.YtbgoibedicbkjaaGreatDoorZBodyLogs2
import Derived.WalkSpells
import Derived.Laws.BitsAllLaws
import Derived.Deep.RegionHeld3
namespace Go.Proofs.YtbgoibedicbkjaaGreatDoor
open Go.Lib (hid)
set_option maxHeartbeats 1000000
set_option maxRecDepth 100000
namespace Canon
open Go.RowKit Mem
def cZ(k:IntKind)(ls:List Nat):List Value:=ls.map fun x=> .int k (x:Nat)
theorem Sm(k:IntKind)(ls:List Nat):(cZ k ls).length=ls.length:=by simp[cZ]
theorem Cm(k:IntKind)(ls:List Nat):∀u∈cZ k ls,u.oneCell'=true:=by intro u hu;obtain⟨x,_,rfl⟩:=Ep.1 hu;rfl
theorem Hc{w:World}{B n c:Nat}{A:Option Addr}{k:IntKind}{ls:List Nat}(h:Row w B A n 1 (iZ k ls))(hn:ls.length=n)(i:A=none->n=0/\c=0):Src w A n c 1 (cZ k ls):=by
 refine⟨by rw[Sm,hn,EM],?_⟩;cases A with
 |none=>exact .inl ⟨rfl,i rfl⟩
 |some ad=>
  refine .inr ⟨ad,rfl,fun j u hu=> ?_⟩;obtain⟨x,hx,rfl⟩:=Bw .. ▸ hu |> Option.map_eq_some_iff.1;have hj:j<n:=by have:=(BO.1 hx).1;omega
  obtain⟨b,z,y,e,hb,hy,hc⟩:=Ci h hn hj;injection e with e;subst e;rw[hx]at hy;injection hy with hy;subst hy;rw[add_none];exact hc
theorem Cr:(Tryz.prog.info? 5).map (fun i=>(i.zero,i.size,i.bytes))=some (some (.int .u8 0),1,1):=by kernel_rfl
theorem GY(w:World)(A:Option Addr)(n c:Nat)(ls:List Nat)(hn:ls.length=n)(Z:n<=100000)(y:A=none->n=0/\c=0)(ha:Row w w.heap.size A n 1 (iZ .u8 ls)):
 Calls Tryz.prog 84 #[.slice A n c] w fun e w'=>∃v,e= .returned v/\w'.ownsRow w.heap.size 5 1 v n (cZ .u8 ls)/\Below w.heap.size w w':=by
 obtain⟨j0,Q,N,M,J⟩:=info_parts Cr;have HN:=hid hn;have Y:=fun(w:World) (a:Option Addr) (n c:Nat)=>Lib.run_eql_slice_nil (P:=Tryz.prog) w 22 5 a n c 0 0 Tryz.underlying22;cases A with
 |none=>obtain⟨rfl,rfl⟩:=y rfl;have hl:ls= []:=FF hn;subst hl;clear hn y;go_enter Tryz.func84,Tryz.ntmps84;go_wp2_with fail;go_ret;exact⟨_,rfl,Am _ _ _ _,Ag _ _⟩
 |some ad=>
  have i:=Hc (c:=c) ha hn y;have E:(w.alloc (.cells #[] 5)).ownsRow w.heap.size 5 1 (.slice (some ⟨w.heap.size,0,none⟩) 0 0) 0 []:=World.ownsRow_made w #[] 0 (Aj _) (by unfold maxLen;omega) rfl
  have G:Src (w.alloc (.cells #[] 5)) (some ad) n c 1 (cZ .u8 ls):=by
   refine⟨i.1, .inr ⟨ad,rfl,fun j u hu=> ?_⟩⟩;rcases i.2 with ⟨h,_⟩|⟨aa,h1,h2⟩
   ·cases h
   ·injection h1 with h1;subst h1;have hc:=h2 j u hu;exact(World.cell?_of_block (BI w _ _ (World.block_lt_of_cell? _ _ hc))).trans hc
  clear hn y i;go_enter Tryz.func84,Tryz.ntmps84;go_wp2_with(at_builtin;refine gZ rfl (.tmp 5) (.tmp 6) 22 rfl w.heap.size 5 j0 _ 1 1 Tryz.underlying22 Q N M J rfl (by decide) _ _ _ (by rfl) E _ n _ (cZ .u8 ls) (by rfl) G (Cm _ _) (by unfold maxLen;omega) (by omega) (by simp) ?_;intro v3 w3 z L U;obtain⟨A3,c3,rfl⟩:=aZ z);go_ret;refine⟨_,rfl,?_,?_⟩
  ·simpa using z
  ·exact(bZ (o:= .cells #[] 5) (Ag _ _)).grown L (by simp) (fun k hk=>by simp[Value.ownBlock]at hk;omega)
end Canon
namespace Crc
def sh(x:Nat):Nat:=if x % 2=1 then(x / 2) ^^^ 3988292384 else x / 2
def shN:Nat->Nat->Nat
 |0,x=>x
 |n+1,x=>shN n (sh x)
theorem N6(m:Nat):∀ (n x:Nat),shN (n+m) x=shN m (shN n x)
 |0,x=>by rw[Bq];rfl
 |n+1,x=>by rw[show n+1+m=(n+m)+1 by omega,shN,N6 m n];rfl
theorem Vr(x y:Nat):(x ^^^ y) % 2=(x % 2+y % 2) % 2:=by have h:=Nat.testBit_xor x y 0;simp only[Nat.testBit_zero]at h;have hx:=LF x;have hy:=LF y;have hz:=LF (x ^^^ y);rcases hx with hx|hx<;>rcases hy with hy|hy<;>rcases hz with hz|hz<;>simp_all
theorem Vb(x y:Nat):(x ^^^ y) / 2=(x / 2) ^^^ (y / 2):=by
 apply Nat.eq_of_testBit_eq
 intro i;rw[Nat.testBit_xor];simp only[Nat.testBit_div_two,Nat.testBit_xor]
theorem VT(x y:Nat):sh (x ^^^ y)=sh x ^^^ sh y:=by
 unfold sh;rw[Vr,Vb];have hx:=LF x;have hy:=LF y;generalize x / 2=a;generalize y / 2=b;have e:a ^^^ b=(a ^^^ 3988292384) ^^^ (b ^^^ 3988292384):=by rw[Nat.xor_assoc,<-Nat.xor_assoc 3988292384,Nat.xor_comm 3988292384 b,Nat.xor_assoc b,Nat.xor_self,Nat.xor_zero]
 rcases hx with hx|hx<;>rcases hy with hy|hy<;>simp only[hx,hy]
 ·simp
 ·simp[Nat.xor_assoc]
 ·simp only[if_true,Nat.reduceEqDiff,if_false];rw[Nat.xor_assoc,Nat.xor_comm b,<-Nat.xor_assoc]
 ·simp only[Nat.reduceAdd,Nat.reduceMod,if_true,Nat.reduceEqDiff,if_false];exact e
theorem NR:∀ (n x y:Nat),shN n (x ^^^ y)=shN n x ^^^ shN n y
 |0,_,_=>rfl
 |n+1,x,y=>by rw[shN,VT,NR n];rfl
theorem Xu(x:Nat):sh (2*x)=x:=by unfold sh;rw[Aa (by omega)];omega
theorem NI:∀ (n x:Nat),shN n (2 ^ n*x)=x
 |0,x=>by simp[shN]
 |n+1,x=>by rw[shN,En,show 2 ^ n*2*x=2*(2 ^ n*x) by rw[Nat.mul_comm (2 ^ n) 2,Nat.mul_assoc],Xu,NI n]
theorem Sc{x:Nat}(h:x<4294967296):sh x<4294967296:=by
 unfold sh;split
 ·exact Nat.xor_lt_two_pow (n:=32) (by omega) (by decide)
 ·omega
theorem IK:∀ (n:Nat) {x:Nat},x<4294967296->shN n x<4294967296
 |0,_,h=>h
 |n+1,_,h=>IK n (Sc h)
def tab:List Nat:= [0x00000000,0x1DB71064,0x3B6E20C8,0x26D930AC,0x76DC4190,0x6B6B51F4,0x4DB26158,0x5005713C,0xEDB88320,0xF00F9344,0xD6D6A3E8,0xCB61B38C,0x9B64C2B0,0x86D3D2D4,0xA00AE278,0xBDBDF21C]
theorem M8:∀i,i<16->tab.getD i 0=shN 4 i:=by decide
theorem zW(n a b:Nat)(hb:b<2 ^ n):2 ^ n*a+b=2 ^ n*a ^^^ b:=by
 rw[Nat.two_pow_add_eq_or_of_lt hb];apply Nat.eq_of_testBit_eq;intro i;rw[Nat.testBit_or,Nat.testBit_xor,Nat.testBit_two_pow_mul];by_cases hi:n<=i
 ·rw[Nat.testBit_lt_two_pow (De hb (Bu (by omega) hi))];simp
 ·simp[hi]
theorem four(x:Nat):shN 4 x=(x / 16) ^^^ tab.getD (x % 16) 0:=by
 have e:x=2 ^ 4*(x / 16) ^^^ (x % 16):=by rw[<-zW 4 _ _ (by omega)];omega
 rw[M8 _ (by omega)]
 conv=>lhs;rw[e,NR,NI]
def Kj(x c:Nat):Nat:=shN 8 (x ^^^ c)
theorem SF(x c:Nat):Kj x c=shN 4 (shN 4 (x ^^^ c)):=N6 4 4 _
def run(x:Nat)(bs:List Nat):Nat:=bs.foldl Kj x
theorem Y6(x:Nat)(a b:List Nat):run x (a++b)=run (run x a) b:=by unfold run;rw[List.foldl_append]
theorem UR{x c:Nat}(hx:x<4294967296)(hc:c<256):Kj x c<4294967296:=IK 8 (Nat.xor_lt_two_pow (n:=32) hx (by omega))
theorem VD{bs:List Nat}:∀ {x:Nat},x<4294967296->(∀c∈bs,c<256)->run x bs<4294967296:=by
 induction bs with
 |nil=>intro x hx _;exact hx
 |cons c l ih=>intro x hx h;exact ih (UR hx (h c (by simp))) (fun d hd=>h d (by simp[hd]))
def Bx(bs:List Nat):Nat:=4294967295-run 4294967295 bs
def more(s:Nat)(bs:List Nat):Nat:=4294967295-run (4294967295-s) bs
def BX(s:Nat):List Nat:= [s % 256,s / 256 % 256,s / 65536 % 256,s / 16777216 % 256]
theorem flip{x:Nat}(h:x<4294967296):4294967295-x=4294967295 ^^^ x:=by
 apply Nat.eq_of_testBit_eq
 intro i;have e:4294967295-x=2 ^ 32-(x+1):=by omega
 rw[e,Nat.testBit_two_pow_sub_succ (by omega),Nat.testBit_xor,show 4294967295=2 ^ 32-1 by rfl,Nat.testBit_two_pow_sub_one];by_cases hi:i<32
 ·simp[hi]
 ·rw[Nat.testBit_lt_two_pow (x:=x) (De h (by have:2 ^ 32<=2 ^ i:=Bu (by omega) (by omega);exact this))];simp[hi]
theorem PR(s:Nat):∀c∈BX s,c<256:=by intro c hc;simp only[BX,List.mem_cons,List.not_mem_nil,or_false]at hc;rcases hc with rfl|rfl|rfl|rfl<;>omega
end Crc
namespace Crc
open Go.RowKit Mem Own Canon
def TabAt(w:World):Prop:=∀i,i<16->w.cell? ⟨0,i,none⟩=some (.int .u32 (tab.getD i 0:Nat))
theorem TabAt.lt{w:World}(h:TabAt w):0<w.heap.size:=World.block_lt_of_cell? _ _ (h 0 (by omega))
theorem TabAt.below{w w':World}{B:Nat}(h:TabAt w)(hb:Below B w w')(hB:0<B):TabAt w':=fun i hi=>(hb.cell (p:=⟨_,i,none⟩) hB).trans (h i hi)
theorem TabAt.step{w w':World}(h:TabAt w)(hb:Below w.heap.size w w'):TabAt w':=h.below hb h.lt
theorem Uz(w:World)(P:Option Addr)(pc:Nat)(A:Option Addr)(n c:Nat)(ls:List Nat)(s:Nat)(hs:s<4294967296)(hn:ls.length=n)(hN:n<=9223372036854775807)(h8:∀x∈ls,x<=255)(ht:TabAt w)
 (hp:Row w w.heap.size P 1 1 (fun _ _=> .slice A n c))(ha:Row w w.heap.size A n 1 (iZ .u8 ls)):
 Calls Tryz.prog 146 #[.int .u32 s, .slice P 1 pc] w fun e w'=>e= .returned (.int .u32 (more s ls:Nat))/\w'=w:=by
 obtain⟨pb,po,rfl,ar,ak⟩:=hp (by omega);have p0:=ak 0 0 (by omega) (by omega);simp only[Nat.zero_mul,Nat.add_zero]at p0;obtain⟨x0,ag⟩:∃x0,x0=4294967295-s:=⟨_,rfl⟩;have e0:bits .xor .u32 IntKind.u32.max (s:Int)=(x0:Int):=by have h:=u32_xor_nat 4294967295 s (by omega) hs;rw[show IntKind.u32.max=((4294967295:Nat):Int) by decide,h,ag,flip hs]
 have ac:x0<4294967296:=by omega
 have am:=hid ag;have HA:=hid ha;have HT:=hid ht;have HN:=hid hn;have H8:=hid h8;clear ha ht hn h8 ak hp ag;unfold more;rw[<-am.out];go_enter Tryz.func146,Tryz.ntmps146;go_wp2_with fail;go_loopw [5,14] (fun xv i wx=>∃ (z:Bool) (x:Nat),xv= .int .u32 x/\i= .int .i64 (if z then 1 else 0)/\Hid (x=if z then run x0 ls else x0)/\x<4294967296/\wx=w) (fun _ i _=>1-(intOf i).toNat)
 case atStart=>exact⟨false,x0,rfl,rfl,rfl,ac,rfl⟩
 case round=>
  obtain⟨z,x,rfl,rfl,hx,E,rfl⟩:=hrel;cases z
  ·obtain rfl:x=x0:=hx.out;clear hx;go_wp2_with fail;go_loopw [5,20] (fun xv i wx=>∃ (k x1:Nat),k<=n/\xv= .int .u32 x1/\i= .int .i64 k/\Hid (x1=run x (ls.take k))/\x1<4294967296/\wx=wr) (fun _ i _=>n-(intOf i).toNat)
   case atStart=>exact⟨0,x,by omega,rfl,rfl,rfl,E,rfl⟩
   case round=>
    obtain⟨k,x1,hk,rfl,rfl,U,j,rfl⟩:=hrel;by_cases ai:k<n
    ·obtain⟨b,au,y,rfl,hb,hy,hc⟩:=Ci HA.out HN.out ai;have an:k<ls.length:=(by rw[HN.out];exact ai);have aq:y<=255:=H8.out y (BF hy);have Q:run x (ls.take (k+1))=Kj x1 y:=(by rw[Ed,hy,Option.toList,Y6,<-U.out];rfl);rw[SF]at Q;obtain⟨x2,Z⟩:∃x2,x2=x1 ^^^ y:=⟨_,rfl⟩;have L:x2<4294967296:=(by rw[Z];exact Nat.xor_lt_two_pow (n:=32) j (by omega));have e1:bits .xor .u32 (x1:Int) (y:Int)=(x2:Int):=(by rw[u32_xor_nat x1 y j (by omega),Z]);obtain⟨j2,ab⟩:∃j2,j2=x2 % 16:=⟨_,rfl⟩;have e2:bits .and .u32 (x2:Int) 15=(j2:Int):=(by rw[show(15:Int)=((15:Nat):Int) from rfl,u32_and_nat x2 15 L (by omega),ab,show 15=2 ^ 4-1 from rfl,LG]);obtain⟨x3,N⟩:∃x3,x3=shN 4 x2:=⟨_,rfl⟩;have G:x3<4294967296:=(by rw[N];exact IK 4 L);have M:j2<16:=(by omega);have t2:=HT.out j2 M;have ae:tab.getD j2 0<4294967296:=(by rw[M8 j2 M];exact IK 4 (by omega));obtain⟨d2,al⟩:∃d2,d2=x2 / 16:=⟨_,rfl⟩;have e3:bits .xor .u32 (d2:Int) (tab.getD j2 0:Nat)=(x3:Int):=(by rw[u32_xor_nat d2 _ (by omega) ae,N,four,al,ab]);obtain⟨j3,af⟩:∃j3,j3=x3 % 16:=⟨_,rfl⟩;have e4:bits .and .u32 (x3:Int) 15=(j3:Int):=(by rw[show(15:Int)=((15:Nat):Int) from rfl,u32_and_nat x3 15 G (by omega),af,show 15=2 ^ 4-1 from rfl,LG]);obtain⟨x4,Y⟩:∃x4,x4=shN 4 x3:=⟨_,rfl⟩;have aa:x4<4294967296:=(by rw[Y];exact IK 4 G);have J:j3<16:=(by omega);have t3:=HT.out j3 J;have ah:tab.getD j3 0<4294967296:=(by rw[M8 j3 J];exact IK 4 (by omega));obtain⟨d3,aj⟩:∃d3,d3=x3 / 16:=⟨_,rfl⟩;have e5:bits .xor .u32 (d3:Int) (tab.getD j3 0:Nat)=(x4:Int):=(by rw[u32_xor_nat d3 _ (by omega) ah,Y,four,aj,af]);have q2:((x2:Int) / 16)=(d2:Int):=(by omega);have q3:((x3:Int) / 16)=(d3:Int):=(by omega);have s1:IntKind.u32.wrap (y:Int)=(y:Int):=(by rw[Hv];omega);have s2:IntKind.u32.wrap (d2:Int)=(d2:Int):=(by rw[Hv];omega);have s3:IntKind.u32.wrap (d3:Int)=(d3:Int):=(by rw[Hv];omega);rw[<-Z,<-N,<-Y]at Q;generalize tab.getD j2 0=u2 at *;generalize tab.getD j3 0=u3 at *;have HY:=hid Q;have y0:(0:Int)<=(k:Int):=(by omega);have y1:(k:Int)<(n:Int):=(by omega);have y2:(0:Int)<=(j2:Int):=(by omega);have y3:(j2:Int)<16:=(by omega);have y4:(0:Int)<=(j3:Int):=(by omega);have y5:(j3:Int)<16:=(by omega);clear Q Z N Y ab af al aj hy an U e0;go_wp2_with fail;go_roundw
     case measure=>go_light;simp[intOf];omega
     case rel=>go_light;exact⟨k+1,x4,by omega,by first|rfl|trivial,by go_num,HY.out.symm,aa,by first|rfl|trivial⟩
    ·obtain rfl:k=n:=by omega
     have h:=U.out;rw[Bv (by rw[HN.out];exact Aj _)]at h;have HR:=hid h;clear h U e0;go_wp2_with fail;go_roundw
     case measure=>go_light;simp[intOf]
     case rel=>go_light;exact⟨true,x1,by first|rfl|trivial,by first|rfl|trivial,HR.out,j,by first|rfl|trivial⟩
  ·have h:=hx.out;simp only[if_true]at h;have hr:run x0 ls<4294967296:=(by rw[<-h];exact E);have e9:bits .xor .u32 IntKind.u32.max (x:Int)=((4294967295-x:Nat):Int):=(by have h:=u32_xor_nat 4294967295 x (by omega) E;rw[show IntKind.u32.max=((4294967295:Nat):Int) by decide,h,flip E]);have HR:=hid h;clear h hx hr e0;go_wp2_with fail;go_ret;exact⟨JN (by rw[<-HR.out]),rfl⟩
theorem sum_any(w:World)(A:Option Addr)(n c:Nat)(ls:List Nat)(hn:ls.length=n)(hN:n<=9223372036854775807)(h8:∀x∈ls,x<=255)(ht:TabAt w)(ha:Row w w.heap.size A n 1 (iZ .u8 ls)):
 Calls Tryz.prog 100 #[.slice A n c] w fun e w'=>e= .returned (.int .u32 (Bx ls:Nat))/\Below w.heap.size w w':=by
 have hb:Below w.heap.size w (w.alloc (.cells #[.slice A n c] 22)):=bZ (Ag _ _)
 have D:=Uz (w.alloc (.cells #[.slice A n c] 22)) (some ⟨w.heap.size,0,none⟩) 1 A n c ls 0 (by omega) hn hN h8 (ht.step hb)
  (Row.of_blk (Blk.made _ _ _) (by simp) (fun i j hi hj=>match i,j,hi,hj with|0,0,_,_=>rfl)) ((ha.below hb).mono hb.size)
 have D:=hid D;clear ha ht h8 hn;go_enter Tryz.func100,Tryz.ntmps100;go_wp2_with fail;refine D.out.mono ?_;rintro e w1 ⟨rfl,rfl⟩;go_wp2_with fail;go_ret;exact⟨rfl,hb⟩
theorem Sb(s:Nat):(BX s).length=4:=rfl
def Lq(s:Nat)(w:World)(e:Ending)(w':World):Prop:=
 ∃g,e= .returned (.slice (some ⟨g,0,none⟩) 4 4)/\w.heap.size<=g/\Blk w' g 5 (cZ .u8 (BX s)).toArray/\Below w.heap.size w w'
theorem On(w:World)(s:Nat)(hs:s<4294967296):Calls Tryz.prog 99 #[.int .u32 s] w (Lq s w):=by
 obtain⟨d1,E⟩:∃d1,d1=s / 256:=⟨_,rfl⟩;obtain⟨d2,z⟩:∃d2,d2=s / 65536:=⟨_,rfl⟩;obtain⟨d3,j⟩:∃d3,d3=s / 16777216:=⟨_,rfl⟩;obtain⟨b0,i⟩:∃b0,b0=s % 256:=⟨_,rfl⟩;obtain⟨b1,y⟩:∃b1,b1=d1 % 256:=⟨_,rfl⟩;obtain⟨b2,h⟩:∃b2,b2=d2 % 256:=⟨_,rfl⟩;obtain⟨b3,G⟩:∃b3,b3=d3 % 256:=⟨_,rfl⟩;have ht:BX s= [b0,b1,b2,b3]:=by rw[i,y,h,G,E,z,j];rfl
 have q1:((s:Int) / 256)=(d1:Int):=by omega
 have q2:((s:Int) / 65536)=(d2:Int):=by omega
 have q3:((s:Int) / 16777216)=(d3:Int):=by omega
 have s1:IntKind.u32.wrap (d1:Int)=(d1:Int):=by rw[Hv];omega
 have s2:IntKind.u32.wrap (d2:Int)=(d2:Int):=by rw[Hv];omega
 have s3:IntKind.u32.wrap (d3:Int)=(d3:Int):=by rw[Hv];omega
 have r0:IntKind.u8.wrap (s:Int)=(b0:Int):=by rw[Gs];omega
 have r1:IntKind.u8.wrap (d1:Int)=(b1:Int):=by rw[Gs];omega
 have r2:IntKind.u8.wrap (d2:Int)=(b2:Int):=by rw[Gs];omega
 have r3:IntKind.u8.wrap (d3:Int)=(b3:Int):=by rw[Gs];omega
 unfold Lq;rw[ht];clear E z j i y h G ht hs;go_enter Tryz.func99,Tryz.ntmps99;go_wp2_with fail;go_ret;exact⟨w.heap.size,rfl,Aj _,Blk.made _ _ _,bZ (Ag _ _)⟩
def Gp(ls:List Nat)(w:World)(e:Ending)(w':World):Prop:=
 ∃v,e= .returned v/\w'.ownsRow w.heap.size 5 1 v (ls.length+4) (cZ .u8 (ls++BX (Bx ls)))/\Below w.heap.size w w'
theorem WQ(k:IntKind)(a b:List Nat):cZ k (a++b)=cZ k a++cZ k b:=by simp[cZ]
theorem M3(w:World)(A:Option Addr)(n c:Nat)(ls:List Nat)(hn:ls.length=n)(af:n<=100000)(z:A=none->n=0/\c=0)(h8:∀x∈ls,x<=255)(ht:TabAt w)(ha:Row w w.heap.size A n 1 (iZ .u8 ls)):
 Calls Tryz.prog 53 #[.slice A n c] w (Gp ls w):=by
 obtain⟨j0,ai,ah,ae,ac⟩:=info_parts Cr;have D1:=hid (GY w A n c ls hn af z ha);have D2:=fun(wx:World) (h:Below w.heap.size w wx)=>sum_any wx A n c ls hn (by omega) h8 (ht.step h) ((ha.below h).mono h.size);have D2:=hid D2;have ab:Bx ls<4294967296:=by unfold Bx;omega
 have D3:=hid (fun wx=>On wx (Bx ls) ab);have Y:=Sb (Bx ls);unfold Gp;rw[WQ,hn];unfold Lq at D3;generalize Bx ls=s at *;have HT:=hid Y;clear hn z h8 ht ha Y;go_enter Tryz.func53,Tryz.ntmps53;go_wp2_with fail;refine D1.out.mono ?_;rintro e w1 ⟨v1,rfl,i,aa⟩;obtain⟨A1,c1,rfl⟩:=aZ i;have J:=hid i;have j:=hid aa;clear i aa D1;go_wp2_with fail;refine(D2.out _ j.out).mono ?_;rintro e w2 ⟨rfl,M⟩;have G:=hid (dZ J.out (fun x hx=>M.block x (Ae J.out x hx).2));have L:Hid (Below w.heap.size w w2):=j.out.trans (M.mono j.out.size);clear M j J D2;go_wp2_with fail;refine(D3.out _).mono ?_;rintro e w3 ⟨g,rfl,hg,E,Q⟩;have U:=hid (dZ G.out (fun x hx=>Q.block x (Ae G.out x hx).2));have Z:Hid (Below w.heap.size w w3):=L.out.trans (Q.mono L.out.size);have ak:=Z.out.size;have HK:=hid E;clear Q L G D3 E;go_wp2_with(at_builtin;refine gZ rfl (.tmp 4) (.tmp 7) 22 rfl w.heap.size 5 j0 _ 1 1 Tryz.underlying22 ai ah ae ac rfl (by decide) _ _ _ (by rfl) U.out _ 4 4 (cZ .u8 (BX s)) (by rfl) (by simpa using Src.of_blk HK.out 4 4 1 (by rw[List.size_toArray,Sm,HT.out])) (Cm _ _) (by unfold maxLen;omega) (by omega) (by omega) ?_;intro v4 w4 N ag aj);go_ret;exact⟨_,rfl,N,Z.out.grown ag (by omega) (fun y hy=>(Ae U.out y hy).1)⟩
end Crc
namespace Crc
open Go.RowKit Mem Own Canon
theorem Uj{w:World}{B n m s:Nat}{A:Option Addr}{f:Nat->Nat->Value}(h:Row w B A n s f)(hm:m<=n):Row w B A m s f:=fun h0=>by obtain⟨b,y,e,hb,hc⟩:=h (by omega);exact⟨b,y,e,hb,fun i j hi hj=>hc i j (by omega) hj⟩
theorem UW{ls:List Nat}{m i:Nat}(h:i<m):(ls.take m).getD i 0=ls.getD i 0:=by rw[Ar,List.getElem?_take_of_lt h,<-Ar]
theorem Du{w:World}{B n m:Nat}{A:Option Addr}{k:IntKind}{ls:List Nat}(h:Row w B A n 1 (iZ k ls))(hm:m<=n):Row w B A m 1 (iZ k (ls.take m)):=
 (Uj h hm).congr fun i j hi _=>by unfold iZ;rw[UW hi]
theorem Ct{w:World}{B n m c:Nat}{A:Option Addr}{k:IntKind}{ls:List Nat}(h:Row w B A n 1 (iZ k ls))(hm:m<=n)(hc:n<=c):Row w B (vZ A m c 1) (n-m) 1 (iZ k (ls.drop m)):=
 h.cut m (n-m) (by omega) hc fun i j _ _=>by unfold iZ;rw[Ar,Ar,Iz]
theorem Dx{P:Program}{t e:TypeId}{s:Nat}(ht:P.underlying t=some (.slice e))(hs:∀w,(sizeOf e).run P w= .ok s w)(A:Option Addr)(len i:Nat)(kh:IntKind)(h:Int)(m:Nat)(hh:h=m)(hm:m<=i)(hA:∀a,A=some a->a.add 0=a)(w:World):
 (Instr.slice t (.slice A len i) none (some (.int kh h)) none).run P w= .ok (.slice A m i) w:=by
 subst hh;have he:P.elem t=e:=by simp[Program.elem,ht]
 rw[run_slice_h w t A len i (by rw[he];exact ht) kh (m:Int) (by omega) (by omega),he,hs];cases A with
 |none=>simp[Result.andThen,sliced]
 |some a=>simp[Result.andThen,sliced,hA a rfl]
theorem M0{la lb:List Nat}{k:Nat}(h:k<la.length)(h':k<lb.length):decide (la.drop k=lb.drop k)=(decide (la.getD k 0=lb.getD k 0)&&decide (la.drop (k+1)=lb.drop (k+1))):=by rw[Ar,Ar,AD h,AD h',FZ,FZ,ID,CD,decide_eq_true_eq,decide_eq_true_eq,decide_eq_true_eq,CC h,CC h',List.cons.injEq]
theorem UD(w:World)(A B:Option Addr)(n c d:Nat)(la lb:List Nat)(hn:la.length=n)(hm:lb.length=n)(hN:n<=9223372036854775807)(ha:Row w w.heap.size A n 1 (iZ .u8 la))(hb:Row w w.heap.size B n 1 (iZ .u8 lb)):
 Calls Tryz.prog 113 #[.slice A n c, .slice B n d] w fun e w'=>e= .returned (.bool (decide (la=lb)))/\Below w.heap.size w w':=by
 have HA:=hid ha;have HB:=hid hb;have HN:=hid hn;have HM:=hid hm;clear ha hb hn hm;go_enter Tryz.func113,Tryz.ntmps113;go_wp2_with fail;go_loopw [13] (fun i wx=>∃k:Nat,k<=n/\i= .int .i64 k/\Hid (decide (la.drop k=lb.drop k)=decide (la=lb))/\Hid (Below w.heap.size w wx)) (fun i _=>n-(intOf i).toNat)
 case atStart=>exact⟨0,by omega,rfl,rfl,Ag _ _⟩
 case round=>
  obtain⟨k,hk,rfl,hE,h⟩:=hrel;by_cases j:k<n
  ·obtain⟨b1,o1,x1,rfl,M,z,J⟩:=Ci (HA.out.below h.out) HN.out j;obtain⟨b2,o2,x2,rfl,G,E,L⟩:=Ci (HB.out.below h.out) HM.out j;have he:=hE.out;rw[M0 (by rw[HN.out];exact j) (by rw[HM.out];exact j),Ar,Ar,z,E]at he;simp only[Option.getD_some]at he;have y0:(0:Int)<=(k:Int):=(by omega);have y1:(k:Int)<(n:Int):=(by omega);clear z E hE;by_cases y:x1=x2
   ·subst y;rw[Aw rfl,Bool.true_and]at he;have HE:=hid he;have e1:((x1:Int) != (x1:Int))=false:=(by simp);clear he;go_wp2_with fail;go_quiet (fail);go_wp2_with fail;go_roundw
    case measure=>go_light;simp[intOf];omega
    case rel=>go_light;exact⟨k+1,by omega,by go_num,HE.out,below_drewN h.out _⟩
   ·rw[Az y,Hw]at he;have HE:=hid he;have e1:((x1:Int) != (x2:Int))=true:=(by simp;omega);clear he y;go_wp2_with fail;go_quiet (fail);go_wp2_with fail;go_ret;exact⟨Do HE.out,below_drewN h.out _⟩
  ·obtain rfl:k=n:=by omega
   have he:=hE.out;rw[Ce (by rw[HN.out];exact Aj _),Ce (by rw[HM.out];exact Aj _)]at he;have HE:=hid he;clear he hE;go_wp2_with fail;go_ret;exact⟨Do (by rw[<-HE.out];rfl),h.out⟩
def BS(ls:List Nat):Int:=if ls.length<4 then 1 else if ls.drop (ls.length-4)=BX (Bx (ls.take (ls.length-4)))then 0 else 5
def AI(ls:List Nat):List Nat:=if BS ls=0 then ls.take (ls.length-4)else []
def ER(ls:List Nat)(w:World)(e:Ending)(w':World):Prop:=
 ∃v,e= .returned (.tuple #[v, .int .i64 (BS ls)])/\w'.ownsRow w.heap.size 5 1 v (AI ls).length (cZ .u8 (AI ls))/\Below w.heap.size w w'
theorem Lc(w:World)(A:Option Addr)(n c:Nat)(ls:List Nat)(hn:ls.length=n)(ah:n<=100000)(hc:n<=c)(h8:∀x∈ls,x<=255)(ht:TabAt w)(ha:Row w w.heap.size A n 1 (iZ .u8 ls)):
 Calls Tryz.prog 65 #[.slice A n c] w (ER ls w):=by
 unfold ER;by_cases h4:n<4
 ·have hE:BS ls=1:=by unfold BS;rw[Ab (by omega)]
  have hO:AI ls= []:=by unfold AI;rw[hE];rfl
  rw[hE,hO];have s1:IntKind.i64.wrap ((n:Int)-4)=(n:Int)-4:=by rw[Ak _ (by omega)]
  have g1:decide ((n:Int)-4<0)=true:=by simp;omega
  clear ha ht h8 hn hE hO;go_enter Tryz.func65,Tryz.ntmps65;go_wp2_with fail;go_ret2;exact⟨_,rfl,Am _ _ _ _,Ag _ _⟩
 ·obtain⟨m,rfl⟩:∃m,n=m+4:=⟨n-4,by omega⟩;obtain⟨ab,ao,rfl,ag,ae⟩:=ha (by omega);have M:ls.length-4=m:=by omega
  have s1:IntKind.i64.wrap ((((m+4:Nat)):Int)-4)=(m:Int):=by rw[Ak _ (by omega)];omega
  have g1:decide ((m:Int)<0)=false:=by simp
  have hb:=Du ha (show m<=m+4 by omega);have hd:=Ct ha (show m<=m+4 by omega) hc;rw[show m+4-m=4 by omega]at hd;have G:(ls.take m).length=m:=by rw[AO];omega
  have Q:(ls.drop m).length=4:=by rw[AQ];omega
  have Z:∀x∈ls.take m,x<=255:=fun x hx=>h8 x (BV hx);have aa:Bx (ls.take m)<4294967296:=by unfold Bx;omega
  have k1:=fun wx=>EG (P:=Tryz.prog) (t:=22) (s:=1) Tryz.underlying22 (fun _=>by kernel_rfl) (some ⟨ab,ao,none⟩) (m+4) c .i64 (m:Int) m rfl (by omega) wx;have k2:=fun wx=>Dx (P:=Tryz.prog) (t:=22) (s:=1) Tryz.underlying22 (fun _=>by kernel_rfl) (some ⟨ab,ao,none⟩) (m+4) c .i64 (m:Int) m rfl (by omega) (fun a ha=>by injection ha with ha;subst ha;exact EY ab ao 0) wx;rw[show m+4-m=4 by omega]at k1;have D1:=hid (fun(wx:World) (h:Below w.heap.size w wx)=>sum_any wx (some ⟨ab,ao,none⟩) m c (ls.take m) G (by omega) Z (ht.step h) ((hb.below h).mono h.size));have D2:=hid (fun wx=>On wx (Bx (ls.take m)) aa);have U:=Sb (Bx (ls.take m));unfold Lq at D2;have hE:BS ls=if ls.drop m=BX (Bx (ls.take m))then 0 else 5:=by unfold BS;rw[Aa (by omega),M]
  have hO:AI ls=if BS ls=0 then ls.take m else []:=by unfold AI;rw[M]
  generalize vZ (some ⟨ab,ao,none⟩) m c 1=A1 at *
  have D3:Hid (∀ (wx:World) g,Below w.heap.size w wx->Blk wx g 5 (cZ .u8 (BX (Bx (ls.take m)))).toArray->Calls Tryz.prog 113 #[.slice A1 4 (c-m), .slice (some ⟨g,0,none⟩) 4 4] wx fun e w'=>e= .returned (.bool (decide (ls.drop m=BX (Bx (ls.take m)))))/\Below wx.heap.size wx w'):=by
   intro wx g h hg;refine UD wx A1 (some ⟨g,0,none⟩) 4 (c-m) 4 _ _ Q U (by omega) ((hd.below h).mono h.size) (Row.of_blk hg hg.lt fun i j hi hj=> ?_);obtain rfl:j=0:=by omega
   rw[EM,CW];simp[cZ,iZ,List.getD_eq_getElem?_getD,List.getElem?_eq_getElem (show i<(BX (Bx (ls.take m))).length by omega)]
  have D4:=hid (fun(wx:World) (h:Below w.heap.size w wx)=>GY wx (some ⟨ab,ao,none⟩) m c (ls.take m) G (by omega) (fun h=>by cases h) ((hb.below h).mono h.size));generalize Bx (ls.take m)=s at *;clear ha ae hb hd h8 ht Z h4 M hn;have ac:=hid G;clear G Q U;by_cases y:ls.drop m=BX s
  ·rw[Ab y]at hE;rw[hE,Ab rfl]at hO;rw[hE,hO,ac.out];rw[Aw y]at D3;clear y hE hO;go_enter Tryz.func65,Tryz.ntmps65;go_upto_region 4 with fail;go_region_held3 (fun _=>True) (trivial) (first|(go_at_call 100;(with_reducible refine(D1.out _ (by(repeat (with_reducible first|exact Ag _ _|assumption|refine Aq ?_ |refine below_drewN ?_ _|refine qZ ?_ |refine bZ ?_ |refine eZ (by assumption) ?_ |refine belA ?_ |refine rZ (by assumption) ?_)))).mono ?_);rintro e w1 ⟨rfl,L⟩)|(go_at_call 99;(with_reducible refine(D2.out _).mono ?_);rintro e w2 ⟨g,rfl,hg,E,J⟩)|(go_at_call 113;(with_reducible refine(D3.out _ _ (by(repeat (with_reducible first|exact Ag _ _|assumption|refine Aq ?_ |refine below_drewN ?_ _|refine qZ ?_ |refine bZ ?_ |refine eZ (by assumption) ?_ |refine belA ?_ |refine rZ (by assumption) ?_))) (by assumption)).mono ?_);rintro e w3 ⟨rfl,N⟩));have z:Below w.heap.size w w3:=(by(repeat (with_reducible first|exact Ag _ _|assumption|refine Aq ?_ |refine below_drewN ?_ _|refine qZ ?_ |refine bZ ?_ |refine eZ (by assumption) ?_ |refine belA ?_ |refine rZ (by assumption) ?_)));have HB:=hid z;clear L J N z E D1 D2 D3;go_wp2_with fail;refine(D4.out _ HB.out).mono ?_;rintro e w4 ⟨v,rfl,Y,af⟩;go_wp2_with fail;go_ret2;exact⟨_,rfl,jZ Y HB.out.size,HB.out.trans (af.mono HB.out.size)⟩
  ·rw[Aa y]at hE;rw[hE,Aa (by omega)]at hO;rw[hE,hO];rw[Az y]at D3;clear y hE hO;go_enter Tryz.func65,Tryz.ntmps65;go_upto_region 4 with fail;go_region_held3 (fun _=>True) (trivial) (first|(go_at_call 100;(with_reducible refine(D1.out _ (by(repeat (with_reducible first|exact Ag _ _|assumption|refine Aq ?_ |refine below_drewN ?_ _|refine qZ ?_ |refine bZ ?_ |refine eZ (by assumption) ?_ |refine belA ?_ |refine rZ (by assumption) ?_)))).mono ?_);rintro e w1 ⟨rfl,L⟩)|(go_at_call 99;(with_reducible refine(D2.out _).mono ?_);rintro e w2 ⟨g,rfl,hg,E,J⟩)|(go_at_call 113;(with_reducible refine(D3.out _ _ (by(repeat (with_reducible first|exact Ag _ _|assumption|refine Aq ?_ |refine below_drewN ?_ _|refine qZ ?_ |refine bZ ?_ |refine eZ (by assumption) ?_ |refine belA ?_ |refine rZ (by assumption) ?_))) (by assumption)).mono ?_);rintro e w3 ⟨rfl,N⟩));have z:Below w.heap.size w w3:=(by(repeat (with_reducible first|exact Ag _ _|assumption|refine Aq ?_ |refine below_drewN ?_ _|refine qZ ?_ |refine bZ ?_ |refine eZ (by assumption) ?_ |refine belA ?_ |refine rZ (by assumption) ?_)));have HB:=hid z;clear L J N z E D1 D2 D3;go_wp2_with fail;go_ret2;exact⟨_,rfl,Am _ _ _ _,HB.out⟩
end Crc
namespace Crc
open Go.RowKit Mem Own Canon
theorem T2(w:World)(x:Nat)(hx:x<4294967296):Calls Tryz.prog 220 #[.int .u32 x] w fun e w'=>e= .returned (.int .u32 (sh x:Nat))/\w'=w:=by
 have e0:bits .xor .u32 ((x / 2:Nat):Int) 3988292384=(((x / 2) ^^^ 3988292384:Nat):Int):=by have h:=u32_xor_nat (x / 2) 3988292384 (by omega) (by omega);exact h
 have c0:((x:Int) / 2)=((x / 2:Nat):Int):=by omega
 by_cases h2:x % 2=1
 ·have g1:((x:Int) % 2==1)=true:=by rw[beq_iff_eq];omega
  have hs:sh x=(x / 2) ^^^ 3988292384:=Ab h2;rw[hs];rw[<-c0]at e0;generalize (x / 2) ^^^ 3988292384=y at *;clear hs c0 h2;go_enter Tryz.func220,Tryz.ntmps220;go_wp2_with fail;go_ret;exact⟨rfl,rfl⟩
 ·have g1:((x:Int) % 2==1)=false:=by rw[Dd];omega
  have hs:sh x=x / 2:=Aa h2;rw[hs];clear hs e0 h2 c0;go_enter Tryz.func220,Tryz.ntmps220;go_wp2_with fail;go_ret;exact⟨by simp,rfl⟩
theorem Um(w:World)(s:Nat)(hs:s<4294967296)(A:Option Addr)(n c:Nat)(ls:List Nat)(hn:ls.length=n)(ai:n<=1000000)(h8:∀x∈ls,x<=255)(ha:Row w w.heap.size A n 1 (iZ .u8 ls)):
 Calls Tryz.prog 186 #[.int .u32 s, .slice A n c] w fun e w'=>e= .returned (.int .u32 (more s ls:Nat))/\Below w.heap.size w w':=by
 have e0:IntKind.u32.wrap (4294967295-(s:Int))=((4294967295-s:Nat):Int):=by rw[Hv];omega
 obtain⟨R,hR⟩:∃R,R=run (4294967295-s) ls:=⟨_,rfl⟩;have ag:R<4294967296:=by rw[hR];exact VD (by omega) (fun c hc=>by have:=h8 c hc;omega)
 have hm:more s ls=4294967295-R:=by unfold more;rw[hR]
 rw[hm];have J:Hid (run (4294967295-s) (ls.drop 0)=R):=hR.symm
 have HA:Hid (∀i,i<n->∃b j,A=some ⟨b,j,none⟩/\w.cell? ⟨b,j+i,none⟩=some (.int .u8 (ls.getD i 0:Nat))/\b<w.heap.size/\ls.getD i 0<=255/\ls.drop i=ls.getD i 0 :: ls.drop (i+1)):=fun i hi=>by
  obtain⟨b,j,rfl,N,hc⟩:=ha (by omega);have:=hc i 0 hi (by omega);simp only[iZ,Nat.mul_one,Nat.add_zero]at this;have hg:ls.getD i 0=ls[i]:=by rw[Ar,AD (by omega)];rfl
  exact⟨b,j,rfl,this,N,by rw[hg];exact h8 _ (Hr (by omega)),by rw[hg];exact CC (by omega)⟩
 have HE:Hid (ls.drop n= []):=List.drop_eq_nil_of_le (by omega);have B:=fun(w:World) (x:Nat) (hx:x<4294967296)=>T2 w x hx;have HB:=hid B;obtain⟨x0,Q⟩:∃x0,x0=4294967295-s:=⟨_,rfl⟩;have U:x0<4294967296:=by omega
 rw[<-Q]at e0 J;clear hR hm h8 ha hn B Q;go_enter Tryz.func186,Tryz.ntmps186;go_wp2_with fail;go_loopw [5,6] (fun u v wr=>∃x i:Nat,u= .int .u32 x/\v= .int .i64 i/\x<4294967296/\i<=n/\Hid (run x (ls.drop i)=R)/\wr=w) (fun _ v _=>n-(intOf v).toNat)
 case atStart=>exact⟨x0,0,rfl,rfl,U,by omega,J.out,rfl⟩
 case round=>
  obtain⟨x,i,rfl,rfl,hx,hi,HR,rfl⟩:=hrel;clear J;by_cases ae:i<n
  ·obtain⟨b,j,rfl,hc,N,ah,hd⟩:=HA.out i ae;have g1:decide ((i:Int)<(n:Int))=true:=(by simp;omega);have ab:decide (i<n)=true:=(by simp;omega);have y0:(0:Int)<=(i:Int):=(by omega);have y1:(i:Int)<(n:Int):=(by omega);have s2:IntKind.i64.wrap ((i:Int)+1)=((i+1:Nat):Int):=(by rw[Ak _ (by omega)];omega);have L:Hid (run (shN 8 (x ^^^ ls.getD i 0)) (ls.drop (i+1))=R):=(by have h:=HR.out;rw[hd]at h;exact h);generalize ls.getD i 0=y at *;have e1:bits .xor .u32 (x:Int) (y:Int)=((x ^^^ y:Nat):Int):=u32_xor_nat x y hx (by omega);have e2:IntKind.u32.wrap (y:Int)=(y:Int):=(by rw[Hv];omega);have ac:x ^^^ y<4294967296:=Nat.xor_lt_two_pow (n:=32) hx (by omega);generalize x ^^^ y=z at *;clear hd HR;obtain⟨w0,rfl⟩:∃w0:World,w0=wr:=⟨_,rfl⟩;go_wp2_with fail;go_loopw [5,7] (fun u v wr=>∃a k:Nat,u= .int .u32 a/\v= .int .i64 k/\a<4294967296/\k<=8/\Hid (shN (8-k) a=shN 8 z)/\wr=w0) (fun _ v _=>8-(intOf v).toNat)
   case atStart=>exact⟨z,0,rfl,rfl,ac,by omega,by exact(rfl:shN 8 z=shN 8 z),rfl⟩
   case round=>
    obtain⟨a,k,rfl,rfl,G,hk,HS,rfl⟩:=hrel;by_cases h8:k<8
    ·have g2:decide ((k:Int)<8)=true:=(by simp;omega);have af:decide (k<8)=true:=(by simp;omega);have s3:IntKind.i64.wrap ((k:Int)+1)=((k+1:Nat):Int):=(by rw[Ak _ (by omega)];omega);have E:Hid (shN (8-(k+1)) (sh a)=shN 8 z):=(by have h:=HS.out;rw[show 8-k=(8-(k+1))+1 by omega]at h;exact h);have Y:=Sc G;have M:=hid (HB.out wr a G);generalize sh a=a' at *;clear HS;go_wp2_with fail;refine M.out.mono ?_;rintro e w9 ⟨rfl,rfl⟩;clear M;go_wp2_with fail;go_roundw
     case measure=>go_light;simp[intOf];omega
     case rel=>go_light;exact⟨a',k+1,rfl,rfl,Y,by omega,E.out,trivial⟩
    ·obtain rfl:k=8:=by omega
     have E:Hid (a=shN 8 z):=HS.out;have aa:Hid (run a (ls.drop (i+1))=R):=(by rw[E.out];exact L.out);clear HS L E;go_wp2_with fail;go_roundw
     case measure=>go_light;simp[intOf];omega
     case rel=>go_light;exact⟨a,i+1,rfl,rfl,G,by omega,aa.out,trivial⟩
  ·obtain rfl:i=n:=by omega
   have Z:Hid (x=R):=(by have h:=HR.out;rw[HE.out]at h;exact h);have e1:IntKind.u32.wrap (4294967295-(x:Int))=((4294967295-x:Nat):Int):=(by rw[Hv];omega);have g1:decide ((i:Int)<(i:Int))=false:=(by simp);have ab:decide (i<i)=false:=(by simp);go_wp2_with fail;go_ret;exact⟨by rw[<-Z.out];first|rfl|simp,Ag _ _⟩
theorem TL(w:World)(A:Option Addr)(n c:Nat)(ls:List Nat)(hn:ls.length=n)(h:n<=1000000)(h8:∀x∈ls,x<=255)(ha:Row w w.heap.size A n 1 (iZ .u8 ls)):
 Calls Tryz.prog 136 #[.slice A n c] w fun e w'=>e= .returned (.int .u32 (Bx ls:Nat))/\Below w.heap.size w w':=by
 have D:=hid (Um w 0 (by omega) A n c ls hn h h8 ha);have hm:more 0 ls=Bx ls:=rfl;rw[hm]at D;clear hn h8 ha hm;go_enter Tryz.func136,Tryz.ntmps136;go_wp2_with fail;refine D.out.mono ?_;rintro e w1 ⟨rfl,hb⟩;go_wp2_with fail;go_ret;exact⟨rfl,hb⟩
def GG(s:Nat):Nat->List Nat
 |0=> []
 |k+1=>s % 256 :: GG (s / 256) k
theorem YS{s:Nat}:GG s 4=BX s:=by simp[GG,BX,Nat.div_div_eq_div_mul]
theorem Lm(w:World)(A:Option Addr)(n c:Nat)(ls:List Nat)(hn:ls.length=n)(ai:n<=1000000)(z:A=none->n=0/\c=0)(h8:∀x∈ls,x<=255)(ha:Row w w.heap.size A n 1 (iZ .u8 ls)):
 Calls Tryz.prog 81 #[.slice A n c] w (Gp ls w):=by
 obtain⟨j0,ac,Z,Y,N⟩:=info_parts Cr;have D:=hid (TL w A n c ls hn ai h8 ha);have ag:Bx ls<4294967296:=by unfold Bx;omega
 unfold Gp;rw[<-YS];generalize Bx ls=s at *;have E:Hid (∀wx,Below w.heap.size w wx->Src wx A n c 1 (cZ .u8 ls)):=fun wx hb=>Hc ((ha.below hb).mono hb.size) hn z;have HN:=hid hn;obtain⟨R,hR⟩:∃R,R=ls++GG s 4:=⟨_,rfl⟩;have af:Hid (ls++GG s 4=R):=hR.symm;have an:Hid (R.length=n+4):=by rw[hR,Ai,hn];exact rfl
 rw[<-hR];clear hR;rw[hn];clear hn z h8 ha;go_enter Tryz.func81,Tryz.ntmps81;go_wp2_with fail;refine D.out.mono ?_;rintro e w1 ⟨rfl,hb⟩;have J:=hid hb;clear D hb;have ak:=J.out.size
 have G:Hid ((w1.alloc (.cells #[] 5)).ownsRow w.heap.size 5 1 (.slice (some ⟨w1.heap.size,0,none⟩) 0 0) 0 []):=
  ⟨rfl, .inr ⟨w1.heap.size,0,#[],rfl,ak,heap_alloc_new w1 _,Aj _,by unfold maxLen;omega,rfl,rfl⟩⟩
 have L:Hid (Below w.heap.size w (w1.alloc (.cells #[] 5))):=bZ J.out;have aa:=hid (E.out _ L.out);clear J E;go_wp2_with(at_builtin;refine gZ rfl (.tmp 8) (.tmp 9) 22 rfl w.heap.size 5 j0 _ 1 1 Tryz.underlying22 ac Z Y N rfl (by decide) _ _ _ (by rfl) G.out _ _ _ _ (by rfl) aa.out (Cm _ _) (by unfold maxLen;omega) (by omega) (by simp;omega) ?_;intro v4 w4 i Q U);have ae:Hid (w4.ownsRow w.heap.size 5 1 v4 (n+0) (cZ .u8 ls)):=by rw[show n+0=0+n by omega];exact i
 have ab:Hid (Below w.heap.size w w4):=L.out.grown Q (by simp;omega) (fun y hy=>(Ae G.out y hy).1);clear i Q U G L aa;go_loopw [3,4,5] (fun u v t wr=>∃ (a k:Nat) (done:List Nat),u= .int .u32 a/\t= .int .i64 k/\a<4294967296/\k<=4/\Hid (done++GG a (4-k)=R)/\Hid (wr.ownsRow w.heap.size 5 1 v (n+k) (cZ .u8 done))/\Hid (Below w.heap.size w wr)) (fun _ _ t _=>4-(intOf t).toNat)
 case atStart=>exact⟨s,0,ls,rfl,rfl,ag,by omega,af.out,ae.out,ab.out⟩
 case round=>
  obtain⟨a,k,done,rfl,rfl,ar,hk,HR,HO,HB⟩:=hrel;clear ae ab af;have hz:=HB.out.size;by_cases h4:k<4
  ·have g2:decide ((k:Int)<4)=true:=(by simp;omega);have aq:decide (k<4)=true:=(by simp;omega);have s3:IntKind.i64.wrap ((k:Int)+1)=((k+1:Nat):Int):=(by rw[Ak _ (by omega)];omega);have c1:IntKind.u8.wrap ((a:Int) % 256)=((a % 256:Nat):Int):=(by rw[Gs];omega);have j:Hid ((done++ [a % 256])++GG (a / 256) (4-(k+1))=R):=(by have h:=HR.out;rw[show 4-k=(4-(k+1))+1 by omega,GG]at h;rw[EX];exact h);obtain⟨b,hb⟩:∃b,b=a % 256:=⟨_,rfl⟩;rw[<-hb]at c1 j;clear hb HR;go_wp2_with(at_builtin;refine gZ rfl (.tmp 15) (.tmp 19) 22 rfl w.heap.size 5 j0 _ 1 1 Tryz.underlying22 ac Z Y N rfl (by decide) _ _ _ (by rfl) (HO.out.alloc _) _ 1 1 [.int .u8 (b:Nat)] (by rfl) (Src.of_blk (g:=wr.heap.size) (Blk.made _ _ _) 1 1 1 rfl) (by intro u hu;simp at hu;rcases hu with rfl;rfl) (by unfold maxLen;omega) (by omega) (by simp;omega) ?_;intro v5 w5 M al am);have aj:Hid (w5.ownsRow w.heap.size 5 1 v5 (n+(k+1)) (cZ .u8 (done++ [b]))):=(by rw[show cZ .u8 (done++ [b])=cZ .u8 done++ [.int .u8 (b:Nat)] by simp[cZ]];exact M);have ah:Hid (Below w.heap.size w w5):=(bZ HB.out).grown al (by simp;omega) (fun y hy=>(Ae HO.out y hy).1);exact⟨⟨a / 256,k+1,done++ [b],AJ _ (by omega),rfl,by omega,by omega,j.out,aj.out,ah.out⟩,by simp[intOf];omega⟩
  ·obtain rfl:k=4:=by omega
   have j:Hid (done=R):=(by have h:=HR.out;rw[show 4-4=0 from rfl,GG,Fi]at h;exact h);clear HR;go_wp2_with fail;go_ret;exact⟨_,rfl,by rw[<-j.out];exact HO.out,HB.out⟩
end Crc
namespace Huff
open Go.RowKit Mem Canon
def GV(ls:List Nat)(s:Int):Nat:=if s<0 then 0 else ls.getD s.toNat 0
theorem YE(w:World)(g B:Nat)(A:Option Addr)(n c:Nat)(ls:List Nat)(s:Int)(hn:ls.length=n)(hs: -9223372036854775808<=s/\s<=9223372036854775807)
 (h:∀x∈ls,x<=255)(hg:w.cell? ⟨g,0,none⟩=some (.slice A n c))(ha:Row w B A n 1 (iZ .u8 ls)):
 Calls Tryz.prog 257 #[.pointer (some ⟨g,0,none⟩), .int .i64 s] w fun e w'=>e= .returned (.int .i64 (GV ls s:Nat))/\w=w':=by
 obtain⟨z,j⟩:=hs;by_cases h0:s<0
 ·have e0:GV ls s=0:=by unfold GV;rw[Ab h0]
  rw[e0];clear h hn;go_enter Tryz.func257,Tryz.ntmps257;go_wp2_with fail;go_ret;exact⟨rfl,rfl⟩
 ·obtain⟨m,rfl⟩:=J5 (show 0<=s by omega);by_cases h1:m<n
  ·obtain⟨b,y,x,rfl,hb,hx,hc⟩:=Ci ha hn h1;have i:x<=255:=h x (BF hx);have e0:GV ls (m:Int)=x:=(by unfold GV;rw[Aa h0];simp[List.getD_eq_getElem?_getD,hx]);rw[e0];have x0:(0:Int)<=(m:Int):=(by omega);have x1:(m:Int)<(n:Int):=(by omega);clear h hn hx;go_enter Tryz.func257,Tryz.ntmps257;go_wp2_with fail;go_ret;exact⟨by go_num,rfl⟩
  ·have e0:GV ls (m:Int)=0:=(by unfold GV;rw[Aa h0];simp[List.getD_eq_getElem?_getD,List.getElem?_eq_none (show ls.length<=m by omega)]);rw[e0];have x1:¬(m:Int)<(n:Int):=(by omega);clear h hn;go_enter Tryz.func257,Tryz.ntmps257;go_wp2_with fail;go_ret;exact⟨rfl,rfl⟩
theorem len_any(w:World)(g B:Nat)(A:Option Addr)(n c:Nat)(ls:List Nat)(s:Int)(hn:ls.length=n)(hs: -9223372036854775808<=s/\s<=9223372036854775807)
 (h:∀x∈ls,x<=255)(hg:w.cell? ⟨g,0,none⟩=some (.slice A n c))(ha:Row w B A n 1 (iZ .u8 ls)):
 Calls Tryz.prog 225 #[.pointer (some ⟨g,0,none⟩), .int .i64 s] w fun e w'=>e= .returned (.int .i64 (GV ls s:Nat))/\w=w':=by
 have C:=hid (YE w g B A n c ls s hn hs h hg ha);clear hn hs h ha;go_enter Tryz.func225,Tryz.ntmps225;go_wp2_with fail;refine C.out.mono ?_;rintro e w1 ⟨rfl,rfl⟩;go_wp2_with fail;go_ret;exact⟨rfl,rfl⟩
end Huff
namespace Huff
open Canon
def AZ(ls:List Nat):List Bool:=(List.range (8*ls.length)).map fun i=>decide (ls.getD (i / 8) 0 / 2 ^ (7-i % 8) % 2=1)
theorem CX(ls:List Nat):(AZ ls).length=8*ls.length:=by simp[AZ]
theorem Nn{ls:List Nat}{i:Nat}(h:i<8*ls.length):bit (AZ ls) i=ls.getD (i / 8) 0 / 2 ^ (7-i % 8) % 2:=by unfold bit AZ;rw[Ar,Bw,List.getElem?_range h];simp only[Option.map_some,Option.getD_some,decide_eq_true_eq];split<;>omega
def head(bs:List Bool)(at_:Nat):Nat:=sZ bs at_ 15
def there(bs:List Bool)(at_:Nat):Nat:=min 15 (bs.length-at_)
end Huff
namespace Canon
open Go.RowKit Mem Own
theorem Xc{w:World}{base n c:Nat}{A:Option Addr}{xs:List Value}{e:TypeId}(h:w.ownsRow base e 1 (.slice A n c) n xs):Src w A n c 1 xs:=by
 obtain⟨h0,h1⟩:=h;refine⟨h0,?_⟩;rcases h1 with ⟨hv,_⟩|⟨g,y,cur,hv,_,hh,_,_,_,i⟩
 ·injection hv with e1 e2 e3;exact .inl ⟨e1,e2,e3⟩
 ·injection hv with e1 e2 e3;refine .inr ⟨⟨g,0,none⟩,e1,fun j u hu=> ?_⟩;rw[EY,Bq,Blk.cell hh];rw[<-i,Hs]at hu;split at hu
  ·simpa using hu
  ·cases hu
theorem XK:(Tryz.prog.info? 9).map (fun i=>(i.zero,i.size,i.bytes))=some (some (.string ⟨#[]⟩),1,16):=by kernel_rfl
theorem T5(w:World)(base:Nat)(A:Option Addr)(n c:Nat)(xs:List Value)(U:n<=3000000)(h:w.ownsRow base 9 1 (.slice A n c) n xs)(j:∀u∈xs,u.oneCell'=true):
 Calls Tryz.prog 46 #[.slice A n c] w fun e w'=>∃v,e= .returned v/\w'.ownsRow w.heap.size 9 1 v n xs/\Below w.heap.size w w':=by
 obtain⟨j0,M,L,J,E⟩:=info_parts XK;have Q:=fun(w:World) (a:Option Addr) (n c:Nat)=>Lib.run_eql_slice_nil (P:=Tryz.prog) w 33 9 a n c 0 0 Tryz.underlying33;cases A with
 |none=>obtain⟨rfl,rfl⟩:=(CQ h).1 rfl;have hl:xs= []:=FF (by have:=h.1;omega);subst hl;clear h j;go_enter Tryz.func46,Tryz.ntmps46;go_wp2_with fail;go_ret;exact⟨_,rfl,Am _ _ _ _,Ag _ _⟩
 |some ad=>
  have y:(w.alloc (.cells #[] 9)).ownsRow w.heap.size 9 1 (.slice (some ⟨w.heap.size,0,none⟩) 0 0) 0 []:=World.ownsRow_made w #[] 0 (Aj _) (by unfold maxLen;omega) rfl;have z:Src (w.alloc (.cells #[] 9)) (some ad) n c 1 xs:=Xc (h.alloc _);clear h;go_enter Tryz.func46,Tryz.ntmps46;go_wp2_with(at_builtin;refine gZ rfl (.tmp 5) (.tmp 6) 33 rfl w.heap.size 9 j0 _ 1 16 Tryz.underlying33 M L J E rfl (by decide) _ _ _ (by rfl) y _ n _ xs (by rfl) z j (by unfold maxLen;omega) (by omega) (by simp) ?_;intro v3 w3 i G N;obtain⟨A3,c3,rfl⟩:=aZ i);go_ret;refine⟨_,rfl,?_,?_⟩
  ·simpa using i
  ·exact(bZ (o:= .cells #[] 9) (Ag _ _)).grown G (by simp) (fun k hk=>by simp[Value.ownBlock]at hk;omega)
end Canon
end Go.Proofs.YtbgoibedicbkjaaGreatDoor
