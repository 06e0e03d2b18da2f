/- The walk of the libr -/
import Derived.Test.YtfgdoknipbpfhaaGreatDoorZBodyIndex2
import Derived.WalkSpells
import Derived.Laws.BitsAllLaws
import Derived.Deep.RegionHeld3
namespace Go.Proofs.YtfgdoknipbpfhaaGreatDoor
open Go.Proofs.Tryz
open Go.Lib (hid)
set_option maxHeartbeats 1000000
set_option maxRecDepth 100000
variable{w w':World}{B c i m n s x:Nat}{A:Option Addr}{k:IntKind}{ls:List Nat}{e:TypeId}
namespace Canon
open Go.RowKit Mem
def bZ(k:IntKind)(ls:List Nat):List Value:=ls.map fun x=> .int k (x:Nat)
theorem U8(k:IntKind)(ls:List Nat):(bZ k ls).length=ls.length:=p7
theorem qZ(k:IntKind)(ls:List Nat):∀u∈bZ k ls,u.oneCell'=true:=by intro u hu;obtain⟨x,_,rfl⟩:=Cl.1 hu;rfl
theorem J0(h:Row w B A n 1 (kZ k ls))(hn:ls.length=n)(i:A=none->n=0/\c=0):Src w A n c 1 (bZ k ls):=by
 refine⟨by rw[U8,hn,EK],?_⟩;cases A with
 |none=>exact .inl ⟨rfl,i rfl⟩
 |some ad=>
  refine .inr ⟨ad,rfl,fun j u hu=> ?_⟩;obtain⟨x,hx,rfl⟩:=BR .. ▸ hu |> Option.map_eq_some_iff.1;have hj:j<n:=by have:=(BS.1 hx).1;omega
  obtain⟨b,E,y,e,hb,hy,hc⟩:=Dg h hn hj;injection e with e;subst e;rw[hx]at hy;injection hy with hy;subst hy;rw[add_none];exact hc
theorem CW:(prog.info? 5).map (fun i=>(i.zero,i.size,i.bytes))=some (some (.int .u8 0),1,1):=ni
theorem IM(w:World)(A:Option Addr)(n c:Nat)(ls:List Nat)(hn:ls.length=n)(aa:n<=100000)(E:A=none->n=0/\c=0)(ha:Row w w A n 1 (kZ .u8 ls)):
 Calls prog 100 #[.slice A n c] w fun e w'=>∃v,e= .returned v/\w'.ownsRow w 5 1 v n (bZ .u8 ls)/\Below w w w':=by
 obtain⟨j0,Y,Q,M,N⟩:=info_parts CW;have HN:=hid hn;have ab:=fun(w:World) (a:Option Addr) (n c:Nat)=>Lib.run_eql_slice_nil (P:=prog) w 28 5 a n c 0 0 underlying28;cases A with
 |none=>obtain⟨rfl,rfl⟩:=E rfl;have hl:ls= []:=Hl hn;subst hl;clear hn E;go_enter func100,ntmps100;go_wp2_with fail;go_ret;exact⟨_,rfl,AE _ _ _ _,Ak _ _⟩
 |some ad=>
  have i:=J0 (c:=c) ha hn E;have L:(w.alloc (.cells #[] 5)).ownsRow w 5 1 (.slice (some ⟨w,0,none⟩) 0 0) 0 []:=World.ownsRow_made w #[] 0 (Am _) qn rfl
  have J:Src (w.alloc (.cells #[] 5)) (some ad) n c 1 (bZ .u8 ls):=by
   refine⟨i.1, .inr ⟨ad,rfl,fun j u hu=> ?_⟩⟩;rcases i.2 with ⟨h,_⟩|⟨ac,h1,h2⟩
   ·cases h
   ·injection h1 with h1;subst h1;have hc:=h2 j u hu;exact(World.cell?_of_block (EA w _ _ (World.block_lt_of_cell? _ _ hc))).trans hc
  clear hn E i;go_enter func100,ntmps100;go_wp2_with(at_builtin;refine fZ rfl (.tmp 5) (.tmp 6) 28 rfl w 5 j0 _ 1 1 underlying28 Y Q M N rfl ji _ _ _ nC L _ n _ (bZ .u8 ls) nC J (qZ _ _) qn nB pR ?_;intro v3 w3 G U Z;obtain⟨A3,c3,rfl⟩:=aZ G);go_ret;refine⟨_,rfl,?_,?_⟩
  ·simpa using G
  ·exact(cZ (o:= .cells #[] 5) (Ak _ _)).grown U pR (fun k hk=>by simp[Value.ownBlock]at hk;omega)
end Canon
namespace Crc
def sh(x:Nat):Nat:=if x % 2=1 then(x / 2) ^^^ 3988292384 else x / 2
def shN:Nat->Nat->Nat
 |0,x=>x
 |n+1,x=>shN n (sh x)
theorem Rp(m:Nat):∀ (n x:Nat),shN (n+m) x=shN m (shN n x)
 |0,x=>by rw[B0];rfl
 |n+1,x=>by rw[show n+1+m=(n+m)+1 by omega,shN,Rp m n];rfl
theorem eJ(x y:Nat):(x ^^^ y) % 2=(x % 2+y % 2) % 2:=by have h:=Nat.testBit_xor x y 0;simp only[Nat.testBit_zero]at h;have hx:=LJ x;have hy:=LJ y;have hz:=LJ (x ^^^ y);rcases hx with hx|hx<;>rcases hy with hy|hy<;>rcases hz with hz|hz<;>simp_all
theorem dK(x y:Nat):(x ^^^ y) / 2=(x / 2) ^^^ (y / 2):=by
 apply Nat.eq_of_testBit_eq
 intro i;rw[Nat.testBit_xor];simp only[Nat.testBit_div_two,Nat.testBit_xor]
theorem jI(x y:Nat):sh (x ^^^ y)=sh x ^^^ sh y:=by
 unfold sh;rw[eJ,dK];have hx:=LJ x;have hy:=LJ y;generalize x / 2=a;generalize y / 2=b;have e:a ^^^ b=(a ^^^ 3988292384) ^^^ (b ^^^ 3988292384):=by rw[Nat.xor_assoc,<-Nat.xor_assoc 3988292384,Nat.xor_comm 3988292384 b,Nat.xor_assoc b,Nat.xor_self,Nat.xor_zero]
 rcases hx with hx|hx<;>rcases hy with hy|hy<;>simp only[hx,hy]
 ·simp
 ·simp[Nat.xor_assoc]
 ·simp only[if_true,Nat.reduceEqDiff,if_false];rw[Nat.xor_assoc,Nat.xor_comm b,<-Nat.xor_assoc]
 ·simp only[Nat.reduceAdd,Nat.reduceMod,if_true,Nat.reduceEqDiff,if_false];exact e
theorem Q8:∀ (n x y:Nat),shN n (x ^^^ y)=shN n x ^^^ shN n y
 |0,_,_=>rfl
 |n+1,x,y=>by rw[shN,jI,Q8 n];rfl
theorem ZL(x:Nat):sh (2*x)=x:=by unfold sh;rw[Ae nB];omega
theorem QV:∀ (n x:Nat),shN n (2 ^ n*x)=x
 |0,x=>by simp[shN]
 |n+1,x=>by rw[shN,Dl,show 2 ^ n*2*x=2*(2 ^ n*x) by rw[Nat.mul_comm (2 ^ n) 2,Nat.mul_assoc],ZL,QV n]
theorem T6(h:x<4294967296):sh x<4294967296:=by
 unfold sh;split
 ·exact Nat.xor_lt_two_pow (n:=32) nB ji
 ·omega
theorem J4:∀ (n:Nat) {x:Nat},x<4294967296->shN n x<4294967296
 |0,_,h=>h
 |n+1,_,h=>J4 n (T6 h)
def tab:List Nat:= [0x00000000,0x1DB71064,0x3B6E20C8,0x26D930AC,0x76DC4190,0x6B6B51F4,0x4DB26158,0x5005713C,0xEDB88320,0xF00F9344,0xD6D6A3E8,0xCB61B38C,0x9B64C2B0,0x86D3D2D4,0xA00AE278,0xBDBDF21C]
theorem Qf:∀i,i<16->tab.getD i 0=shN 4 i:=ji
theorem kP(n a b:Nat)(hb:b<2 ^ n):2 ^ n*a+b=2 ^ n*a ^^^ b:=by
 rw[Nat.two_pow_add_eq_or_of_lt hb];apply Nat.eq_of_testBit_eq;intro i;rw[Nat.testBit_or,Nat.testBit_xor,Nat.testBit_two_pow_mul];by_cases hi:n<=i
 ·rw[Nat.testBit_lt_two_pow (Fi hb (Cf nB hi))];simp
 ·simp[hi]
theorem four(x:Nat):shN 4 x=(x / 16) ^^^ tab.getD (x % 16) 0:=by
 have e:x=2 ^ 4*(x / 16) ^^^ (x % 16):=by rw[<-kP 4 _ _ nB];omega
 rw[Qf _ nB]
 conv=>lhs;rw[e,Q8,QV]
def Mt(x c:Nat):Nat:=shN 8 (x ^^^ c)
theorem jW(x c:Nat):Mt x c=shN 4 (shN 4 (x ^^^ c)):=Rp 4 4 _
def run(x:Nat)(bs:List Nat):Nat:=bs.foldl Mt x
theorem jC(x:Nat)(a b:List Nat):run x (a++b)=run (run x a) b:=by unfold run;rw[List.foldl_append]
theorem bT(hx:x<4294967296)(hc:c<256):Mt x c<4294967296:=J4 8 (Nat.xor_lt_two_pow (n:=32) hx nB)
theorem iU{bs:List Nat}:∀ {x:Nat},x<4294967296->(∀c∈bs,c<256)->run x bs<4294967296:=by
 induction bs with
 |nil=>intro x hx _;exact hx
 |cons c l ih=>intro x hx h;exact ih (bT hx (h c pR)) (fun d hd=>h d (by simp[hd]))
def Ct(bs:List Nat):Nat:=4294967295-run 4294967295 bs
def more(s:Nat)(bs:List Nat):Nat:=4294967295-run (4294967295-s) bs
def CU(s:Nat):List Nat:= [s % 256,s / 256 % 256,s / 65536 % 256,s / 16777216 % 256]
theorem flip(h:x<4294967296):4294967295-x=4294967295 ^^^ x:=by
 apply Nat.eq_of_testBit_eq
 intro i;have e:4294967295-x=2 ^ 32-(x+1):=nB
 rw[e,Nat.testBit_two_pow_sub_succ nB,Nat.testBit_xor,show 4294967295=2 ^ 32-1 by rfl,Nat.testBit_two_pow_sub_one];by_cases hi:i<32
 ·simp[hi]
 ·rw[Nat.testBit_lt_two_pow (x:=x) (Fi h (by have:2 ^ 32<=2 ^ i:=Cf nB nB;exact this))];simp[hi]
theorem S4(s:Nat):∀c∈CU s,c<256:=by intro c hc;simp only[CU,List.mem_cons,List.not_mem_nil,or_false]at hc;rcases hc with rfl|rfl|rfl|rfl<;>omega
end Crc
namespace Crc
open Go.RowKit Mem Own Canon
def TabAt(w:World):Prop:=∀i,i<16->w.cell? ⟨0,i,none⟩=some (.int .u32 (tab.getD i 0:Nat))
theorem TabAt.lt(h:TabAt w):0<w.heap.size:=World.block_lt_of_cell? _ _ (h 0 nB)
theorem TabAt.below(h:TabAt w)(hb:Below B w w')(hB:0<B):TabAt w':=fun i hi=>(hb.cell (p:=⟨_,i,none⟩) hB).trans (h i hi)
theorem TabAt.step(h:TabAt w)(hb:Below w w w'):TabAt w':=h.below hb h.lt
theorem aU(w:World)(P:Option Addr)(pc:Nat)(A:Option Addr)(n c:Nat)(ls:List Nat)(s:Nat)(hs:s<4294967296)(hn:ls.length=n)(hN:n<=9223372036854775807)(h8:∀x∈ls,x<=255)(ht:TabAt w)
 (hp:Row w w P 1 1 (fun _ _=> .slice A n c))(ha:Row w w A n 1 (kZ .u8 ls)):
 Calls prog 168 #[.int .u32 s, .slice P 1 pc] w fun e w'=>e= .returned (.int .u32 (more s ls:Nat))/\w'=w:=by
 obtain⟨pb,po,rfl,aq,ak⟩:=hp nB;have p0:=ak 0 0 nB nB;simp only[Nat.zero_mul,Nat.add_zero]at p0;obtain⟨x0,ab⟩:=jc (4294967295-s);have e0:bits .xor .u32 IntKind.u32.max (s:Int)=(x0:Int):=by have h:=u32_xor_nat 4294967295 s nB hs;rw[show IntKind.u32.max=((4294967295:Nat):Int) by decide,h,ab,flip hs]
 have af:x0<4294967296:=nB
 have am:=hid ab;have HA:=hid ha;have HT:=hid ht;have HN:=hid hn;have H8:=hid h8;clear ha ht hn h8 ak hp ab;unfold more;rw[<-am.out];go_enter func168,ntmps168;go_wp2_with fail;go_loopw [5,14] (fun xv i wx=>∃ (z:Bool) (x:Nat),xv= .int .u32 x/\i= .int .i64 (if z then 1 else 0)/\Hid (x=if z then run x0 ls else x0)/\x<4294967296/\wx=w) (fun _ i _=>1-(intOf i).toNat)
 case atStart=>exact⟨false,x0,rfl,rfl,rfl,af,rfl⟩
 case round=>
  obtain⟨z,x,rfl,rfl,hx,E,rfl⟩:=hrel;cases z
  ·obtain rfl:x=x0:=hx.out;clear hx;go_wp2_with fail;go_loopw [5,20] (fun xv i wx=>∃ (k x1:Nat),k<=n/\xv= .int .u32 x1/\i= .int .i64 k/\Hid (x1=run x (ls.take k))/\x1<4294967296/\wx=wr) (fun _ i _=>n-(intOf i).toNat)
   case atStart=>exact⟨0,x,nB,rfl,rfl,rfl,E,rfl⟩
   case round=>
    obtain⟨k,x1,hk,rfl,rfl,N,j,rfl⟩:=hrel;by_cases aj:k<n
    ·obtain⟨b,ar,y,rfl,hb,hy,hc⟩:=Dg HA.out HN.out aj;have an:k<ls.length:=(by rw[HN.out];exact aj);have au:y<=255:=H8.out y (AY hy);have Z:run x (ls.take (k+1))=Mt x1 y:=(by rw[Ca,hy,Option.toList,jC,<-N.out];rfl);rw[jW]at Z;obtain⟨x2,Q⟩:=jc (x1 ^^^ y);have J:x2<4294967296:=(by rw[Q];exact Nat.xor_lt_two_pow (n:=32) j nB);have e1:bits .xor .u32 (x1:Int) (y:Int)=(x2:Int):=(by rw[u32_xor_nat x1 y j nB,Q]);obtain⟨j2,ae⟩:=jc (x2 % 16);have e2:bits .and .u32 (x2:Int) 15=(j2:Int):=(by rw[show(15:Int)=((15:Nat):Int) from rfl,u32_and_nat x2 15 J nB,ae,show 15=2 ^ 4-1 from rfl,NF]);obtain⟨x3,U⟩:=jc (shN 4 x2);have L:x3<4294967296:=(by rw[U];exact J4 4 J);have G:j2<16:=nB;have t2:=HT.out j2 G;have ag:tab.getD j2 0<4294967296:=(by rw[Qf j2 G];exact J4 4 nB);obtain⟨d2,al⟩:=jc (x2 / 16);have e3:bits .xor .u32 (d2:Int) (tab.getD j2 0:Nat)=(x3:Int):=(by rw[u32_xor_nat d2 _ nB ag,U,four,al,ae]);obtain⟨j3,ah⟩:=jc (x3 % 16);have e4:bits .and .u32 (x3:Int) 15=(j3:Int):=(by rw[show(15:Int)=((15:Nat):Int) from rfl,u32_and_nat x3 15 L nB,ah,show 15=2 ^ 4-1 from rfl,NF]);obtain⟨x4,Y⟩:=jc (shN 4 x3);have aa:x4<4294967296:=(by rw[Y];exact J4 4 L);have M:j3<16:=nB;have t3:=HT.out j3 M;have ac:tab.getD j3 0<4294967296:=(by rw[Qf j3 M];exact J4 4 nB);obtain⟨d3,ai⟩:=jc (x3 / 16);have e5:bits .xor .u32 (d3:Int) (tab.getD j3 0:Nat)=(x4:Int):=(by rw[u32_xor_nat d3 _ nB ac,Y,four,ai,ah]);have q2:((x2:Int) / 16)=(d2:Int):=nB;have q3:((x3:Int) / 16)=(d3:Int):=nB;have s1:IntKind.u32.wrap (y:Int)=(y:Int):=oL;have s2:IntKind.u32.wrap (d2:Int)=(d2:Int):=oL;have s3:IntKind.u32.wrap (d3:Int)=(d3:Int):=oL;rw[<-Q,<-U,<-Y]at Z;generalize tab.getD j2 0=u2 at *;generalize tab.getD j3 0=u3 at *;have HY:=hid Z;have y0:(0:Int)<=(k:Int):=nB;have y1:(k:Int)<(n:Int):=nB;have y2:(0:Int)<=(j2:Int):=nB;have y3:(j2:Int)<16:=nB;have y4:(0:Int)<=(j3:Int):=nB;have y5:(j3:Int)<16:=nB;clear Z Q U Y ae ah al ai hy an N e0;go_wp2_with fail;go_roundw
     case measure=>exact ld
     case rel=>go_light;exact⟨k+1,x4,nB,jm,lj,HY.out.symm,aa,jm⟩
    ·obtain rfl:k=n:=by omega
     have h:=N.out;rw[Bp oz]at h;have HR:=hid h;clear h N e0;go_wp2_with fail;go_roundw
     case measure=>go_light;simp[intOf]
     case rel=>go_light;exact⟨true,x1,jm,jm,HR.out,j,jm⟩
  ·have h:=hx.out;simp only[if_true]at h;have hr:run x0 ls<4294967296:=(by rw[<-h];exact E);have e9:bits .xor .u32 IntKind.u32.max (x:Int)=((4294967295-x:Nat):Int):=(by have h:=u32_xor_nat 4294967295 x nB E;rw[show IntKind.u32.max=((4294967295:Nat):Int) by decide,h,flip E]);have HR:=hid h;clear h hx hr e0;go_wp2_with fail;go_ret;exact⟨KJ (by rw[<-HR.out]),rfl⟩
theorem sum_any(w:World)(A:Option Addr)(n c:Nat)(ls:List Nat)(hn:ls.length=n)(hN:n<=9223372036854775807)(h8:∀x∈ls,x<=255)(ht:TabAt w)(ha:Row w w A n 1 (kZ .u8 ls)):
 Calls prog 102 #[.slice A n c] w fun e w'=>e= .returned (.int .u32 (Ct ls:Nat))/\Below w w w':=by
 have hb:Below w w (w.alloc (.cells #[.slice A n c] 28)):=cZ (Ak _ _)
 have D:=aU (w.alloc (.cells #[.slice A n c] 28)) (some ⟨w,0,none⟩) 1 A n c ls 0 nB hn hN h8 (ht.step hb)
  (Row.of_blk (Blk.made _ _ _) pR (fun i j hi hj=>match i,j,hi,hj with|0,0,_,_=>rfl)) ((ha.below hb).mono hb.size)
 have D:=hid D;clear ha ht h8 hn;go_enter func102,ntmps102;go_wp2_with fail;refine D.out.mono ?_;rintro e w1 ⟨rfl,rfl⟩;go_wp2_with fail;go_ret;exact⟨rfl,hb⟩
theorem UV(s:Nat):(CU s).length=4:=rfl
def L9(s:Nat)(w:World)(e:Ending)(w':World):Prop:=
 ∃g,e= .returned (.slice (some ⟨g,0,none⟩) 4 4)/\w.heap.size<=g/\Blk w' g 5 (bZ .u8 (CU s)).toArray/\Below w w w'
theorem Sf(w:World)(s:Nat)(hs:s<4294967296):Calls prog 101 #[.int .u32 s] w (L9 s w):=by
 obtain⟨d1,L⟩:=jc (s / 256);obtain⟨d2,G⟩:=jc (s / 65536);obtain⟨d3,j⟩:=jc (s / 16777216);obtain⟨b0,J⟩:=jc (s % 256);obtain⟨b1,E⟩:=jc (d1 % 256);obtain⟨b2,h⟩:=jc (d2 % 256);obtain⟨b3,i⟩:=jc (d3 % 256);have ht:CU s= [b0,b1,b2,b3]:=by rw[J,E,h,i,L,G,j];rfl
 have q1:((s:Int) / 256)=(d1:Int):=nB
 have q2:((s:Int) / 65536)=(d2:Int):=nB
 have q3:((s:Int) / 16777216)=(d3:Int):=nB
 have s1:IntKind.u32.wrap (d1:Int)=(d1:Int):=oL
 have s2:IntKind.u32.wrap (d2:Int)=(d2:Int):=oL
 have s3:IntKind.u32.wrap (d3:Int)=(d3:Int):=oL
 have r0:IntKind.u8.wrap (s:Int)=(b0:Int):=oj
 have r1:IntKind.u8.wrap (d1:Int)=(b1:Int):=oj
 have r2:IntKind.u8.wrap (d2:Int)=(b2:Int):=oj
 have r3:IntKind.u8.wrap (d3:Int)=(b3:Int):=oj
 unfold L9;rw[ht];clear L G j J E h i ht hs;go_enter func101,ntmps101;go_wp2_with fail;go_ret;exact⟨w.heap.size,rfl,Am _,Blk.made _ _ _,cZ (Ak _ _)⟩
def Hb(ls:List Nat)(w:World)(e:Ending)(w':World):Prop:=
 ∃v,e= .returned v/\w'.ownsRow w 5 1 v (ls.length+4) (bZ .u8 (ls++CU (Ct ls)))/\Below w w w'
theorem X9(k:IntKind)(a b:List Nat):bZ k (a++b)=bZ k a++bZ k b:=p7
theorem Qa(w:World)(A:Option Addr)(n c:Nat)(ls:List Nat)(hn:ls.length=n)(ac:n<=100000)(E:A=none->n=0/\c=0)(h8:∀x∈ls,x<=255)(ht:TabAt w)(ha:Row w w A n 1 (kZ .u8 ls)):
 Calls prog 49 #[.slice A n c] w (Hb ls w):=by
 obtain⟨j0,ai,ag,ae,af⟩:=info_parts CW;have D1:=hid (IM w A n c ls hn ac E ha);have D2:=fun(wx:World) (h:Below w w wx)=>sum_any wx A n c ls hn nB h8 (ht.step h) ((ha.below h).mono h.size);have D2:=hid D2;have ah:Ct ls<4294967296:=by unfold Ct;omega
 have D3:=hid (fun wx=>Sf wx (Ct ls) ah);have aa:=UV (Ct ls);unfold Hb;rw[X9,hn];unfold L9 at D3;generalize Ct ls=s at *;have HT:=hid aa;clear hn E h8 ht ha aa;go_enter func49,ntmps49;go_wp2_with fail;refine D1.out.mono ?_;rintro e w1 ⟨v1,rfl,i,Y⟩;obtain⟨A1,c1,rfl⟩:=aZ i;have J:=hid i;have j:=hid Y;clear i Y D1;go_wp2_with fail;refine(D2.out _ j.out).mono ?_;rintro e w2 ⟨rfl,M⟩;have Q:=hid (eZ J.out (fun x hx=>M.block x (Ai J.out x hx).2));have L:Hid (Below w w w2):=j.out.trans (M.mono j.out.size);clear M j J D2;go_wp2_with fail;refine(D3.out _).mono ?_;rintro e w3 ⟨g,rfl,hg,G,N⟩;have Z:=hid (eZ Q.out (fun x hx=>N.block x (Ai Q.out x hx).2));have ab:Hid (Below w w w3):=L.out.trans (N.mono L.out.size);have al:=ab.out.size;have HK:=hid G;clear N L Q D3 G;go_wp2_with(at_builtin;refine fZ rfl (.tmp 4) (.tmp 7) 28 rfl w 5 j0 _ 1 1 underlying28 ai ag ae af rfl ji _ _ _ nC Z.out _ 4 4 (bZ .u8 (CU s)) nC (by simpa using Src.of_blk HK.out 4 4 1 (by rw[List.size_toArray,U8,HT.out])) (qZ _ _) qn nB nB ?_;intro v4 w4 U aj ak);go_ret;exact⟨_,rfl,U,ab.out.grown aj nB (fun y hy=>(Ai Z.out y hy).1)⟩
end Crc
namespace Crc
open Go.RowKit Mem Own Canon
theorem row_take{f:Nat->Nat->Value}(h:Row w B A n s f)(hm:m<=n):Row w B A m s f:=fun h0=>by obtain⟨b,E,e,hb,hc⟩:=h nB;exact⟨b,E,e,hb,fun i j hi hj=>hc i j nB hj⟩
theorem cK(h:i<m):(ls.take m).getD i 0=ls.getD i 0:=by rw[Aq,List.getElem?_take_of_lt h,<-Aq]
theorem GO(h:Row w B A n 1 (kZ k ls))(hm:m<=n):Row w B A m 1 (kZ k (ls.take m)):=
 (row_take h hm).congr fun i j hi _=>by unfold kZ;rw[cK hi]
theorem Fy(h:Row w B A n 1 (kZ k ls))(hm:m<=n)(hc:n<=c):Row w B (Ba A m c 1) (n-m) 1 (kZ k (ls.drop m)):=
 h.cut m (n-m) nB hc fun i j _ _=>by unfold kZ;rw[Aq,Aq,FX]
theorem FB{P:Program}{t:TypeId}(ht:P.underlying t=some (.slice e))(hs:∀w,(sizeOf e).run P w= .ok s w)(A:Option Addr)(len i:Nat)(kh:IntKind)(h:Int)(m:Nat)(hh:h=m)(hm:m<=i)(hA:∀a,A=some a->a.add 0=a)(w:World):
 (Instr.slice t (.slice A len i) none (some (.int kh h)) none).run P w= .ok (.slice A m i) w:=by
 subst hh;have he:P.elem t=e:=p6
 rw[run_slice_h w t A len i pg kh (m:Int) nB nB,he,hs];cases A with
 |none=>simp[Result.andThen,sliced]
 |some a=>simp[Result.andThen,sliced,hA a rfl]
theorem P3{la lb:List Nat}{k:Nat}(h:k<la.length)(h':k<lb.length):decide (la.drop k=lb.drop k)=(decide (la.getD k 0=lb.getD k 0)&&decide (la.drop (k+1)=lb.drop (k+1))):=by rw[Aq,Aq,AD h,AD h',FV,FV,JI,Ch,decide_eq_true_eq,decide_eq_true_eq,decide_eq_true_eq,Dx h,Dx h',List.cons.injEq]
theorem aX(w:World)(A B:Option Addr)(n c d:Nat)(la lb:List Nat)(hn:la.length=n)(hm:lb.length=n)(hN:n<=9223372036854775807)(ha:Row w w A n 1 (kZ .u8 la))(hb:Row w w B n 1 (kZ .u8 lb)):
 Calls prog 117 #[.slice A n c, .slice B n d] w fun e w'=>e= .returned (.bool (decide (la=lb)))/\Below w w w':=by
 have HA:=hid ha;have HB:=hid hb;have HN:=hid hn;have HM:=hid hm;clear ha hb hn hm;go_enter func117,ntmps117;go_wp2_with fail;go_loopw [13] (fun i wx=>∃k:Nat,k<=n/\i= .int .i64 k/\Hid (decide (la.drop k=lb.drop k)=decide (la=lb))/\Hid (Below w w wx)) (fun i _=>n-(intOf i).toNat)
 case atStart=>exact⟨0,nB,rfl,rfl,Ak _ _⟩
 case round=>
  obtain⟨k,hk,rfl,hE,h⟩:=hrel;by_cases j:k<n
  ·obtain⟨b1,o1,x1,rfl,M,G,N⟩:=Dg (HA.out.below h.out) HN.out j;obtain⟨b2,o2,x2,rfl,L,J,Q⟩:=Dg (HB.out.below h.out) HM.out j;have he:=hE.out;rw[P3 (by rw[HN.out];exact j) (by rw[HM.out];exact j),Aq,Aq,G,J]at he;simp only[Option.getD_some]at he;have y0:(0:Int)<=(k:Int):=nB;have y1:(k:Int)<(n:Int):=nB;clear G J hE;by_cases E:x1=x2
   ·subst E;rw[AQ rfl,Bool.true_and]at he;have HE:=hid he;have e1:((x1:Int) != (x1:Int))=false:=pR;clear he;go_wp2_with fail;go_quiet (fail);go_wp2_with fail;go_roundw
    case measure=>exact ld
    case rel=>go_light;exact⟨k+1,nB,lj,HE.out,below_drewN h.out _⟩
   ·rw[AV E,G0]at he;have HE:=hid he;have e1:((x1:Int) != (x2:Int))=true:=p5;clear he E;go_wp2_with fail;go_quiet (fail);go_wp2_with fail;go_ret;exact⟨Ff HE.out,below_drewN h.out _⟩
  ·obtain rfl:k=n:=by omega
   have he:=hE.out;rw[CF oz,CF oy]at he;have HE:=hid he;clear he hE;go_wp2_with fail;go_ret;exact⟨Ff nD,h.out⟩
def C7(ls:List Nat):Int:=if ls.length<4 then 1 else if ls.drop (ls.length-4)=CU (Ct (ls.take (ls.length-4)))then 0 else 5
def Bu(ls:List Nat):List Nat:=if C7 ls=0 then ls.take (ls.length-4)else []
def Jb(ls:List Nat)(w:World)(e:Ending)(w':World):Prop:=
 ∃v,e= .returned (.tuple #[v, .int .i64 (C7 ls)])/\w'.ownsRow w 5 1 v (Bu ls).length (bZ .u8 (Bu ls))/\Below w w w'
theorem LU(w:World)(A:Option Addr)(n c:Nat)(ls:List Nat)(hn:ls.length=n)(ai:n<=100000)(hc:n<=c)(h8:∀x∈ls,x<=255)(ht:TabAt w)(ha:Row w w A n 1 (kZ .u8 ls)):
 Calls prog 60 #[.slice A n c] w (Jb ls w):=by
 unfold Jb;by_cases h4:n<4
 ·have hE:C7 ls=1:=by unfold C7;rw[Ag nB]
  have hO:Bu ls= []:=by unfold Bu;rw[hE];rfl
  rw[hE,hO];have s1:IntKind.i64.wrap ((n:Int)-4)=(n:Int)-4:=nW
  have g1:=ja ((n:Int)-4<0)
  clear ha ht h8 hn hE hO;go_enter func60,ntmps60;go_wp2_with fail;go_ret2;exact⟨_,rfl,AE _ _ _ _,Ak _ _⟩
 ·obtain⟨m,rfl⟩:∃m,n=m+4:=⟨n-4,nB⟩;obtain⟨ab,ao,rfl,aj,ah⟩:=ha nB;have M:ls.length-4=m:=by omega
  have s1:IntKind.i64.wrap ((((m+4:Nat)):Int)-4)=(m:Int):=nX
  have g1:=jb ((m:Int)<0)
  have hb:=GO ha (show m<=m+4 by omega);have hd:=Fy ha (show m<=m+4 by omega) hc;rw[show m+4-m=4 by omega]at hd;have L:(ls.take m).length=m:=nY
  have Z:(ls.drop m).length=4:=nM
  have Y:∀x∈ls.take m,x<=255:=fun x hx=>h8 x (CN hx);have af:Ct (ls.take m)<4294967296:=by unfold Ct;omega
  have k1:=fun wx=>Gg (P:=prog) (t:=28) (s:=1) underlying28 (fun _=>by kernel_rfl) (some ⟨ab,ao,none⟩) (m+4) c .i64 (m:Int) m rfl nB wx;have k2:=fun wx=>FB (P:=prog) (t:=28) (s:=1) underlying28 (fun _=>by kernel_rfl) (some ⟨ab,ao,none⟩) (m+4) c .i64 (m:Int) m rfl nB (fun a ha=>by injection ha with ha;subst ha;exact Gx ab ao 0) wx;rw[show m+4-m=4 by omega]at k1;have D1:=hid (fun(wx:World) (h:Below w w wx)=>sum_any wx (some ⟨ab,ao,none⟩) m c (ls.take m) L nB Y (ht.step h) ((hb.below h).mono h.size));have D2:=hid (fun wx=>Sf wx (Ct (ls.take m)) af);have ac:=UV (Ct (ls.take m));unfold L9 at D2;have hE:C7 ls=if ls.drop m=CU (Ct (ls.take m))then 0 else 5:=by unfold C7;rw[Ae nB,M]
  have hO:Bu ls=if C7 ls=0 then ls.take m else []:=by unfold Bu;rw[M]
  generalize Ba (some ⟨ab,ao,none⟩) m c 1=A1 at *
  have D3:Hid (∀ (wx:World) g,Below w w wx->Blk wx g 5 (bZ .u8 (CU (Ct (ls.take m)))).toArray->Calls prog 117 #[.slice A1 4 (c-m), .slice (some ⟨g,0,none⟩) 4 4] wx fun e w'=>e= .returned (.bool (decide (ls.drop m=CU (Ct (ls.take m)))))/\Below wx wx w'):=by
   intro wx g h hg;refine aX wx A1 (some ⟨g,0,none⟩) 4 (c-m) 4 _ _ Z ac nB ((hd.below h).mono h.size) (Row.of_blk hg hg.lt fun i j hi hj=> ?_);obtain rfl:j=0:=nB
   rw[EK,Cw];simp[bZ,kZ,List.getD_eq_getElem?_getD,List.getElem?_eq_getElem (show i<(CU (Ct (ls.take m))).length by omega)]
  have D4:=hid (fun(wx:World) (h:Below w w wx)=>IM wx (some ⟨ab,ao,none⟩) m c (ls.take m) L nB (fun h=>by cases h) ((hb.below h).mono h.size));generalize Ct (ls.take m)=s at *;clear ha ah hb hd h8 ht Y h4 M hn;have ag:=hid L;clear L Z ac;by_cases E:ls.drop m=CU s
  ·rw[Ag E]at hE;rw[hE,Ag rfl]at hO;rw[hE,hO,ag.out];rw[AQ E]at D3;clear E hE hO;go_enter func60,ntmps60;go_upto_region 4 with fail;go_region_held3 (fun _=>True) (trivial) (first|(go_at_call 102;(with_reducible refine(D1.out _ qo).mono ?_);rintro e w1 ⟨rfl,U⟩)|(go_at_call 101;(with_reducible refine(D2.out _).mono ?_);rintro e w2 ⟨g,rfl,hg,G,N⟩)|(go_at_call 117;(with_reducible refine(D3.out _ _ qo jf).mono ?_);rintro e w3 ⟨rfl,Q⟩));have J:Below w w w3:=qo;have HB:=hid J;clear U N Q J G D1 D2 D3;go_wp2_with fail;refine(D4.out _ HB.out).mono ?_;rintro e w4 ⟨v,rfl,aa,ae⟩;go_wp2_with fail;go_ret2;exact⟨_,rfl,lZ aa HB.out.size,HB.out.trans (ae.mono HB.out.size)⟩
  ·rw[Ae E]at hE;rw[hE,Ae nB]at hO;rw[hE,hO];rw[AV E]at D3;clear E hE hO;go_enter func60,ntmps60;go_upto_region 4 with fail;go_region_held3 (fun _=>True) (trivial) (first|(go_at_call 102;(with_reducible refine(D1.out _ qo).mono ?_);rintro e w1 ⟨rfl,U⟩)|(go_at_call 101;(with_reducible refine(D2.out _).mono ?_);rintro e w2 ⟨g,rfl,hg,G,N⟩)|(go_at_call 117;(with_reducible refine(D3.out _ _ qo jf).mono ?_);rintro e w3 ⟨rfl,Q⟩));have J:Below w w w3:=qo;have HB:=hid J;clear U N Q J G D1 D2 D3;go_wp2_with fail;go_ret2;exact⟨_,rfl,AE _ _ _ _,HB.out⟩
end Crc
namespace Crc
open Go.RowKit Mem Own Canon
theorem Z9(w:World)(x:Nat)(hx:x<4294967296):Calls prog 257 #[.int .u32 x] w fun e w'=>e= .returned (.int .u32 (sh x:Nat))/\w'=w:=by
 have e0:bits .xor .u32 ((x / 2:Nat):Int) 3988292384=(((x / 2) ^^^ 3988292384:Nat):Int):=by have h:=u32_xor_nat (x / 2) 3988292384 nB nB;exact h
 have c0:((x:Int) / 2)=((x / 2:Nat):Int):=nB
 by_cases h2:x % 2=1
 ·have g1:((x:Int) % 2==1)=true:=by rw[beq_iff_eq];omega
  have hs:sh x=(x / 2) ^^^ 3988292384:=Ag h2;rw[hs];rw[<-c0]at e0;generalize (x / 2) ^^^ 3988292384=y at *;clear hs c0 h2;go_enter func257,ntmps257;go_wp2_with fail;go_ret;exact⟨rfl,rfl⟩
 ·have g1:((x:Int) % 2==1)=false:=by rw[GF];omega
  have hs:sh x=x / 2:=Ae h2;rw[hs];clear hs e0 h2 c0;go_enter func257,ntmps257;go_wp2_with fail;go_ret;exact⟨pR,rfl⟩
theorem aE(w:World)(s:Nat)(hs:s<4294967296)(A:Option Addr)(n c:Nat)(ls:List Nat)(hn:ls.length=n)(af:n<=1000000)(h8:∀x∈ls,x<=255)(ha:Row w w A n 1 (kZ .u8 ls)):
 Calls prog 209 #[.int .u32 s, .slice A n c] w fun e w'=>e= .returned (.int .u32 (more s ls:Nat))/\Below w w w':=by
 have e0:IntKind.u32.wrap (4294967295-(s:Int))=((4294967295-s:Nat):Int):=oL
 obtain⟨R,hR⟩:=jc (run (4294967295-s) ls);have ai:R<4294967296:=by rw[hR];exact iU nB (fun c hc=>by have:=h8 c hc;omega)
 have hm:more s ls=4294967295-R:=by unfold more;rw[hR]
 rw[hm];have G:Hid (run (4294967295-s) (ls.drop 0)=R):=hR.symm
 have HA:Hid (∀i,i<n->∃b j,A=some ⟨b,j,none⟩/\w.cell? ⟨b,j+i,none⟩=some (.int .u8 (ls.getD i 0:Nat))/\b<w.heap.size/\ls.getD i 0<=255/\ls.drop i=ls.getD i 0 :: ls.drop (i+1)):=fun i hi=>by
  obtain⟨b,j,rfl,Q,hc⟩:=ha nB;have:=hc i 0 hi nB;simp only[kZ,Nat.mul_one,Nat.add_zero]at this;have hg:ls.getD i 0=ls[i]:=by rw[Aq,AD nB];rfl
  exact⟨b,j,rfl,this,Q,by rw[hg];exact h8 _ (GI nB),by rw[hg];exact Dx nB⟩
 have HE:Hid (ls.drop n= []):=List.drop_eq_nil_of_le nB;have B:=fun(w:World) (x:Nat) (hx:x<4294967296)=>Z9 w x hx;have HB:=hid B;obtain⟨x0,U⟩:=jc (4294967295-s);have L:x0<4294967296:=nB
 rw[<-U]at e0 G;clear hR hm h8 ha hn B U;go_enter func209,ntmps209;go_wp2_with fail;go_loopw [5,6] (fun u v wr=>∃x i:Nat,u= .int .u32 x/\v= .int .i64 i/\x<4294967296/\i<=n/\Hid (run x (ls.drop i)=R)/\wr=w) (fun _ v _=>n-(intOf v).toNat)
 case atStart=>exact⟨x0,0,rfl,rfl,L,nB,G.out,rfl⟩
 case round=>
  obtain⟨x,i,rfl,rfl,hx,hi,HR,rfl⟩:=hrel;clear G;by_cases ac:i<n
  ·obtain⟨b,j,rfl,hc,Q,ag,hd⟩:=HA.out i ac;have g1:=ja ((i:Int)<n);have Z:=ja (i<n);have y0:(0:Int)<=(i:Int):=nB;have y1:(i:Int)<(n:Int):=nB;have s2:IntKind.i64.wrap ((i:Int)+1)=((i+1:Nat):Int):=nX;have N:Hid (run (shN 8 (x ^^^ ls.getD i 0)) (ls.drop (i+1))=R):=(by have h:=HR.out;rw[hd]at h;exact h);generalize ls.getD i 0=y at *;have e1:bits .xor .u32 (x:Int) (y:Int)=((x ^^^ y:Nat):Int):=u32_xor_nat x y hx nB;have e2:IntKind.u32.wrap (y:Int)=(y:Int):=oL;have Y:x ^^^ y<4294967296:=Nat.xor_lt_two_pow (n:=32) hx nB;generalize x ^^^ y=z at *;clear hd HR;obtain⟨w0,rfl⟩:=jc wr;go_wp2_with fail;go_loopw [5,7] (fun u v wr=>∃a k:Nat,u= .int .u32 a/\v= .int .i64 k/\a<4294967296/\k<=8/\Hid (shN (8-k) a=shN 8 z)/\wr=w0) (fun _ v _=>8-(intOf v).toNat)
   case atStart=>exact⟨z,0,rfl,rfl,Y,nB,by exact(rfl:shN 8 z=shN 8 z),rfl⟩
   case round=>
    obtain⟨a,k,rfl,rfl,J,hk,HS,rfl⟩:=hrel;by_cases h8:k<8
    ·have g2:=ja ((k:Int)<8);have ah:=ja (k<8);have s3:IntKind.i64.wrap ((k:Int)+1)=((k+1:Nat):Int):=nX;have E:Hid (shN (8-(k+1)) (sh a)=shN 8 z):=(by have h:=HS.out;rw[show 8-k=(8-(k+1))+1 by omega]at h;exact h);have aa:=T6 J;have M:=hid (HB.out wr a J);generalize sh a=a' at *;clear HS;go_wp2_with fail;refine M.out.mono ?_;rintro e w9 ⟨rfl,rfl⟩;clear M;go_wp2_with fail;go_roundw
     case measure=>exact ld
     case rel=>go_light;exact⟨a',k+1,rfl,rfl,aa,nB,E.out,trivial⟩
    ·obtain rfl:k=8:=by omega
     have E:Hid (a=shN 8 z):=HS.out;have ab:Hid (run a (ls.drop (i+1))=R):=(by rw[E.out];exact N.out);clear HS N E;go_wp2_with fail;go_roundw
     case measure=>exact ld
     case rel=>go_light;exact⟨a,i+1,rfl,rfl,J,nB,ab.out,trivial⟩
  ·obtain rfl:i=n:=by omega
   have ae:Hid (x=R):=(by have h:=HR.out;rw[HE.out]at h;exact h);have e1:IntKind.u32.wrap (4294967295-(x:Int))=((4294967295-x:Nat):Int):=oL;have g1:=jb ((i:Int)<i);have Z:=jb (i<i);go_wp2_with fail;go_ret;exact⟨by rw[<-ae.out];first|rfl|simp,Ak _ _⟩
theorem ZO(w:World)(A:Option Addr)(n c:Nat)(ls:List Nat)(hn:ls.length=n)(h:n<=1000000)(h8:∀x∈ls,x<=255)(ha:Row w w A n 1 (kZ .u8 ls)):
 Calls prog 140 #[.slice A n c] w fun e w'=>e= .returned (.int .u32 (Ct ls:Nat))/\Below w w w':=by
 have D:=hid (aE w 0 nB A n c ls hn h h8 ha);have hm:more 0 ls=Ct ls:=rfl;rw[hm]at D;clear hn h8 ha hm;go_enter func140,ntmps140;go_wp2_with fail;refine D.out.mono ?_;rintro e w1 ⟨rfl,hb⟩;go_wp2_with fail;go_ret;exact⟨rfl,hb⟩
def Ig(s:Nat):Nat->List Nat
 |0=> []
 |k+1=>s % 256 :: Ig (s / 256) k
theorem iM:Ig s 4=CU s:=by simp[Ig,CU,Nat.div_div_eq_div_mul]
theorem Ij(w:World)(A:Option Addr)(n c:Nat)(ls:List Nat)(hn:ls.length=n)(ai:n<=1000000)(G:A=none->n=0/\c=0)(h8:∀x∈ls,x<=255)(ha:Row w w A n 1 (kZ .u8 ls)):
 Calls prog 78 #[.slice A n c] w (Hb ls w):=by
 obtain⟨j0,ae,ab,U,aa⟩:=info_parts CW;have D:=hid (ZO w A n c ls hn ai h8 ha);have al:Ct ls<4294967296:=by unfold Ct;omega
 unfold Hb;rw[<-iM];generalize Ct ls=s at *;have E:Hid (∀wx,Below w w wx->Src wx A n c 1 (bZ .u8 ls)):=fun wx hb=>J0 ((ha.below hb).mono hb.size) hn G;have HN:=hid hn;obtain⟨R,hR⟩:=jc (ls++Ig s 4);have Z:Hid (ls++Ig s 4=R):=hR.symm;have aq:Hid (R.length=n+4):=by rw[hR,Aj,hn];exact rfl
 rw[<-hR];clear hR;rw[hn];clear hn G h8 ha;go_enter func78,ntmps78;go_wp2_with fail;refine D.out.mono ?_;rintro e w1 ⟨rfl,hb⟩;have L:=hid hb;clear D hb;have ak:=L.out.size
 have N:Hid ((w1.alloc (.cells #[] 5)).ownsRow w 5 1 (.slice (some ⟨w1,0,none⟩) 0 0) 0 []):=
  ⟨rfl, .inr ⟨w1.heap.size,0,#[],rfl,ak,heap_alloc_new w1 _,Am _,qn,rfl,rfl⟩⟩
 have J:Hid (Below w w (w1.alloc (.cells #[] 5))):=cZ L.out;have Q:=hid (E.out _ J.out);clear L E;go_wp2_with(at_builtin;refine fZ rfl (.tmp 8) (.tmp 9) 28 rfl w 5 j0 _ 1 1 underlying28 ae ab U aa rfl ji _ _ _ nC N.out _ _ _ _ nC Q.out (qZ _ _) qn nB p5 ?_;intro v4 w4 i ag Y);have af:Hid (w4.ownsRow w 5 1 v4 (n+0) (bZ .u8 ls)):=by rw[show n+0=0+n by omega];exact i
 have ac:Hid (Below w w w4):=J.out.grown ag p5 (fun y hy=>(Ai N.out y hy).1);clear i ag Y N J Q;go_loopw [3,4,5] (fun u v t wr=>∃ (a k:Nat) (done:List Nat),u= .int .u32 a/\t= .int .i64 k/\a<4294967296/\k<=4/\Hid (done++Ig a (4-k)=R)/\Hid (wr.ownsRow w 5 1 v (n+k) (bZ .u8 done))/\Hid (Below w w wr)) (fun _ _ t _=>4-(intOf t).toNat)
 case atStart=>exact⟨s,0,ls,rfl,rfl,al,nB,Z.out,af.out,ac.out⟩
 case round=>
  obtain⟨a,k,done,rfl,rfl,au,hk,HR,HO,HB⟩:=hrel;clear af ac Z;have hz:=HB.out.size;by_cases h4:k<4
  ·have g2:=ja ((k:Int)<4);have ar:=ja (k<4);have s3:IntKind.i64.wrap ((k:Int)+1)=((k+1:Nat):Int):=nX;have c1:IntKind.u8.wrap ((a:Int) % 256)=((a % 256:Nat):Int):=oj;have j:Hid ((done++ [a % 256])++Ig (a / 256) (4-(k+1))=R):=(by have h:=HR.out;rw[show 4-k=(4-(k+1))+1 by omega,Ig]at h;rw[AK];exact h);obtain⟨b,hb⟩:=jc (a % 256);rw[<-hb]at c1 j;clear hb HR;go_wp2_with(at_builtin;refine fZ rfl (.tmp 15) (.tmp 19) 28 rfl w 5 j0 _ 1 1 underlying28 ae ab U aa rfl ji _ _ _ nC (HO.out.alloc _) _ 1 1 [.int .u8 (b:Nat)] nC (Src.of_blk (g:=wr.heap.size) (Blk.made _ _ _) 1 1 1 rfl) mY qn nB p5 ?_;intro v5 w5 M ah an);have aj:Hid (w5.ownsRow w 5 1 v5 (n+(k+1)) (bZ .u8 (done++ [b]))):=(by rw[show bZ .u8 (done++ [b])=bZ .u8 done++ [.int .u8 (b:Nat)] by simp[bZ]];exact M);have am:Hid (Below w w w5):=(cZ HB.out).grown ah p5 (fun y hy=>(Ai HO.out y hy).1);exact⟨⟨a / 256,k+1,done++ [b],AM _ nB,rfl,nB,nB,j.out,aj.out,am.out⟩,qc⟩
  ·obtain rfl:k=4:=by omega
   have j:Hid (done=R):=(by have h:=HR.out;rw[show 4-4=0 from rfl,Ig,Cx]at h;exact h);clear HR;go_wp2_with fail;go_ret;exact⟨_,rfl,by rw[<-j.out];exact HO.out,HB.out⟩
end Crc
namespace Huff
open Go.RowKit Mem Canon
def Gh(ls:List Nat)(s:Int):Nat:=if s<0 then 0 else ls.getD s.toNat 0
theorem gU(w:World)(g B:Nat)(A:Option Addr)(n c:Nat)(ls:List Nat)(s:Int)(hn:ls.length=n)(hs: -9223372036854775808<=s/\s<=9223372036854775807)
 (h:∀x∈ls,x<=255)(hg:w.cell? ⟨g,0,none⟩=some (.slice A n c))(ha:Row w B A n 1 (kZ .u8 ls)):
 Calls prog 319 #[.pointer (some ⟨g,0,none⟩),s] w fun e w'=>e= .returned (.int .i64 (Gh ls s:Nat))/\w=w':=by
 obtain⟨j,G⟩:=hs;by_cases h0:s<0
 ·have e0:Gh ls s=0:=by unfold Gh;rw[Ag h0]
  rw[e0];clear h hn;go_enter func319,ntmps319;go_wp2_with fail;go_ret;exact⟨rfl,rfl⟩
 ·obtain⟨m,rfl⟩:=If (show 0<=s by omega);by_cases h1:m<n
  ·obtain⟨b,E,x,rfl,hb,hx,hc⟩:=Dg ha hn h1;have i:x<=255:=h x (AY hx);have e0:Gh ls (m:Int)=x:=(by unfold Gh;rw[Ae h0];simp[List.getD_eq_getElem?_getD,hx]);rw[e0];have x0:(0:Int)<=(m:Int):=nB;have x1:(m:Int)<(n:Int):=nB;clear h hn hx;go_enter func319,ntmps319;go_wp2_with fail;go_ret;exact⟨lj,rfl⟩
  ·have e0:Gh ls (m:Int)=0:=(by unfold Gh;rw[Ae h0];simp[List.getD_eq_getElem?_getD,List.getElem?_eq_none (show ls.length<=m by omega)]);rw[e0];have x1:¬(m:Int)<(n:Int):=nB;clear h hn;go_enter func319,ntmps319;go_wp2_with fail;go_ret;exact⟨rfl,rfl⟩
theorem len_any(w:World)(g B:Nat)(A:Option Addr)(n c:Nat)(ls:List Nat)(s:Int)(hn:ls.length=n)(hs: -9223372036854775808<=s/\s<=9223372036854775807)
 (h:∀x∈ls,x<=255)(hg:w.cell? ⟨g,0,none⟩=some (.slice A n c))(ha:Row w B A n 1 (kZ .u8 ls)):
 Calls prog 278 #[.pointer (some ⟨g,0,none⟩),s] w fun e w'=>e= .returned (.int .i64 (Gh ls s:Nat))/\w=w':=by
 have C:=hid (gU w g B A n c ls s hn hs h hg ha);clear hn hs h ha;go_enter func278,ntmps278;go_wp2_with fail;refine C.out.mono ?_;rintro e w1 ⟨rfl,rfl⟩;go_wp2_with fail;go_ret;exact⟨rfl,rfl⟩
end Huff
namespace Huff
open Canon
def Bv(ls:List Nat):List Bool:=(List.range (8*ls.length)).map fun i=>decide (ls.getD (i / 8) 0 / 2 ^ (7-i % 8) % 2=1)
theorem EY(ls:List Nat):(Bv ls).length=8*ls.length:=by simp[Bv]
theorem Nh(h:i<8*ls.length):bit (Bv ls) i=ls.getD (i / 8) 0 / 2 ^ (7-i % 8) % 2:=by unfold bit Bv;rw[Aq,BR,List.getElem?_range h];simp only[Option.map_some,Option.getD_some,decide_eq_true_eq];split<;>omega
theorem Tm(bs:List Bool)(i:Nat):bit (Bv (bytesOf bs)) i=bit bs i:=by
 by_cases h:i<8*(bytesOf bs).length
 ·rw[Nh h];rw[bytesOf_length]at h;have e:(bytesOf bs).getD (i / 8) 0=Ic bs (i / 8):=by unfold bytesOf;rw[Aq,BR,List.getElem?_range nB];rfl
  rw[e];obtain⟨q,r,hr,hi⟩:∃q r,r<8/\i=8*q+r:=⟨i / 8,i % 8,nB,nB⟩;have e1:i / 8=q:=nB
  have e2:i % 8=r:=nB
  rw[e1,e2];subst hi;unfold Ic;have h0:=EP bs (8*q);have h1:=EP bs (8*q+1);have h2:=EP bs (8*q+2);have h3:=EP bs (8*q+3);have h4:=EP bs (8*q+4);have h5:=EP bs (8*q+5);have h6:=EP bs (8*q+6);have h7:=EP bs (8*q+7);have:r=0∨r=1∨r=2∨r=3∨r=4∨r=5∨r=6∨r=7:=nB
  rcases this with rfl|rfl|rfl|rfl|rfl|rfl|rfl|rfl<;>(simp only[Nat.add_zero,Nat.sub_zero,Nat.reduceSub,Nat.reducePow];omega)
 ·rw[Kf (by rw[EY];omega),Kf (by rw[bytesOf_length]at h;omega)]
theorem N5{a b:List Bool}(h:∀i,bit a i=bit b i)(i:Nat):∀m,AN a i m=AN b i m
 |0=>rfl
 |m+1=>by rw[AN,AN,N5 h i m,h]
def head(bs:List Bool)(at_:Nat):Nat:=AN bs at_ 15
def there(bs:List Bool)(at_:Nat):Nat:=min 15 (bs.length-at_)
theorem Nf(h:okB ls=true)(hx:ls[s]? =some x)(h0:x≠0){bs:List Bool}(pre post:List Bool)(hb:∀i,bit bs i=bit (pre++word ls s++post) i)(hl:pre.length+x<=bs.length):
 EG ls (head bs pre.length) (there bs pre.length)=((s:Int),0,x):=by
 obtain⟨_,j,_⟩:=ok_parts h;have E:=j x (AY hx);refine VG h hx (Hq.2 ⟨x,hx,h0,by unfold there;omega,?_⟩);have e:ls.getD s 0=x:=by simp[List.getD_eq_getElem?_getD,hx]
 unfold head;have h1:=Vs bs pre.length x (15-x);rw[show x+(15-x)=15 by omega]at h1;rw[h1,N5 hb];unfold word;rw[e];have h2:=Mg (code ls s) x (Pe h hx h0) (pre++msb (code ls s) x x++post) pre post rfl x (Am _);rw[h2,Gl,Nat.pow_zero,Nat.div_one]
theorem ZT{s:Int}(h:Gh ls s≠0):∃m x:Nat,s=m/\ls[m]? =some x/\x≠0:=by
 unfold Gh at h;split at h
 ·exact absurd rfl h
 ·rename_i h0;refine⟨s.toNat,ls.getD s.toNat 0,nB,?_,h⟩;rcases Nat.lt_or_ge s.toNat ls.length with h1|h1
  ·simp[List.getD_eq_getElem?_getD,h1]
  ·rw[Aq,FO h1]at h;simp at h
end Huff
namespace Canon
open Go.RowKit Mem Own
theorem src_own{base:Nat}{xs:List Value}(h:w.ownsRow base e 1 (.slice A n c) n xs):Src w A n c 1 xs:=by
 obtain⟨h0,h1⟩:=h;refine⟨h0,?_⟩;rcases h1 with ⟨hv,_⟩|⟨g,E,cur,hv,_,hh,_,_,_,i⟩
 ·injection hv with e1 e2 e3;exact .inl ⟨e1,e2,e3⟩
 ·injection hv with e1 e2 e3;refine .inr ⟨⟨g,0,none⟩,e1,fun j u hu=> ?_⟩;rw[Gx,B0,Blk.cell hh];rw[<-i,Gn]at hu;split at hu
  ·simpa using hu
  ·cases hu
theorem kA:(prog.info? 3).map (fun i=>(i.zero,i.size,i.bytes))=some (some (.int .i64 0),1,8):=ni
theorem ZA(w:World)(base:Nat)(A:Option Addr)(n c:Nat)(xs:List Value)(Y:n<=3000000)(h:w.ownsRow base 3 1 (.slice A n c) n xs)(j:∀u∈xs,u.oneCell'=true):
 Calls prog 62 #[.slice A n c] w fun e w'=>∃v,e= .returned v/\w'.ownsRow w 3 1 v n xs/\Below w w w':=by
 obtain⟨j0,Q,M,J,L⟩:=info_parts kA;have Z:=fun(w:World) (a:Option Addr) (n c:Nat)=>Lib.run_eql_slice_nil (P:=prog) w 37 3 a n c 0 0 underlying37;cases A with
 |none=>obtain⟨rfl,rfl⟩:=(Ew h).1 rfl;have hl:xs= []:=Hl mU;subst hl;clear h j;go_enter func62,ntmps62;go_wp2_with fail;go_ret;exact⟨_,rfl,AE _ _ _ _,Ak _ _⟩
 |some ad=>
  have G:(w.alloc (.cells #[] 3)).ownsRow w 3 1 (.slice (some ⟨w,0,none⟩) 0 0) 0 []:=World.ownsRow_made w #[] 0 (Am _) qn rfl;have E:Src (w.alloc (.cells #[] 3)) (some ad) n c 1 xs:=src_own (h.alloc _);clear h;go_enter func62,ntmps62;go_wp2_with(at_builtin;refine fZ rfl (.tmp 5) (.tmp 6) 37 rfl w 3 j0 _ 1 8 underlying37 Q M J L rfl ji _ _ _ nC G _ n _ xs nC E j qn nB pR ?_;intro v3 w3 i N U;obtain⟨A3,c3,rfl⟩:=aZ i);go_ret;refine⟨_,rfl,?_,?_⟩
  ·simpa using i
  ·exact(cZ (o:= .cells #[] 3) (Ak _ _)).grown N pR (fun k hk=>by simp[Value.ownBlock]at hk;omega)
theorem jL:(prog.info? 9).map (fun i=>(i.zero,i.size,i.bytes))=some (some (.string ⟨#[]⟩),1,16):=ni
theorem UH(w:World)(base:Nat)(A:Option Addr)(n c:Nat)(xs:List Value)(Y:n<=3000000)(h:w.ownsRow base 9 1 (.slice A n c) n xs)(j:∀u∈xs,u.oneCell'=true):
 Calls prog 67 #[.slice A n c] w fun e w'=>∃v,e= .returned v/\w'.ownsRow w 9 1 v n xs/\Below w w w':=by
 obtain⟨j0,Q,M,J,L⟩:=info_parts jL;have Z:=fun(w:World) (a:Option Addr) (n c:Nat)=>Lib.run_eql_slice_nil (P:=prog) w 50 9 a n c 0 0 underlying50;cases A with
 |none=>obtain⟨rfl,rfl⟩:=(Ew h).1 rfl;have hl:xs= []:=Hl mU;subst hl;clear h j;go_enter func67,ntmps67;go_wp2_with fail;go_ret;exact⟨_,rfl,AE _ _ _ _,Ak _ _⟩
 |some ad=>
  have G:(w.alloc (.cells #[] 9)).ownsRow w 9 1 (.slice (some ⟨w,0,none⟩) 0 0) 0 []:=World.ownsRow_made w #[] 0 (Am _) qn rfl;have E:Src (w.alloc (.cells #[] 9)) (some ad) n c 1 xs:=src_own (h.alloc _);clear h;go_enter func67,ntmps67;go_wp2_with(at_builtin;refine fZ rfl (.tmp 5) (.tmp 6) 50 rfl w 9 j0 _ 1 16 underlying50 Q M J L rfl ji _ _ _ nC G _ n _ xs nC E j qn nB pR ?_;intro v3 w3 i N U;obtain⟨A3,c3,rfl⟩:=aZ i);go_ret;refine⟨_,rfl,?_,?_⟩
  ·simpa using i
  ·exact(cZ (o:= .cells #[] 9) (Ak _ _)).grown N pR (fun k hk=>by simp[Value.ownBlock]at hk;omega)
end Canon
end Go.Proofs.YtfgdoknipbpfhaaGreatDoor
