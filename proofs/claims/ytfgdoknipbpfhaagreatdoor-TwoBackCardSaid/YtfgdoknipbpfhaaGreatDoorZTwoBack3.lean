/- The walk of the libr -/
import Derived.Test.YtfgdoknipbpfhaaGreatDoorZTwoBack2
import Derived.WalkSpells
import Derived.Laws.BitsAllLaws
import Derived.Deep.RegionHeld3
namespace Go.Proofs.YtfgdoknipbpfhaaGreatDoor
open Go.Proofs.Tryz
open Go.Lib (hid)
set_option maxHeartbeats 1000000
set_option maxRecDepth 100000
variable{w w':World}{B c i m n s x:Nat}{A:Option Addr}{k:IntKind}{ls:List Nat}{e:TypeId}
open Go.RowKit
def dZ(k:IntKind)(ls:List Nat):List Value:=ls.map fun x=> .int k (x:Nat)
theorem VC(k:IntKind)(ls:List Nat):(dZ k ls).length=ls.length:=su
theorem Ce(k:IntKind)(ls:List Nat):∀u∈dZ k ls,u.oneCell'=true:=by intro u hu;obtain⟨x,_,rfl⟩:=CH.1 hu;rfl
theorem Jz(h:Row w B A n 1 (jZ k ls))(hn:ls.length=n)(i:A=none->n=0/\c=0):Src w A n c 1 (dZ k ls):=by
 refine⟨by rw[VC,hn,CZ],?_⟩;cases A with
 |none=>exact .inl ⟨rfl,i rfl⟩
 |some ad=>
  refine .inr ⟨ad,rfl,fun j u hu=> ?_⟩;obtain⟨x,hx,rfl⟩:=Co .. ▸ hu |> Option.map_eq_some_iff.1;have hj:j<n:=by have:=(CQ.1 hx).1;omega
  obtain⟨b,z,y,e,hb,hy,hc⟩:=CO h hn hj;injection e with e;subst e;rw[hx]at hy;injection hy with hy;subst hy;rw[Af6];exact hc
theorem Dh:(prog.info? 5).map (fun i=>(i.zero,i.size,i.bytes))=some (some (.int .u8 0),1,1):=my
theorem IS(w:World)(A:Option Addr)(n c:Nat)(ls:List Nat)(hn:ls.length=n)(Y:n<=100000)(y:A=none->n=0/\c=0)(ha:Row w w A n 1 (jZ .u8 ls)):
 Calls prog 100 #[.slice A n c] w fun e w'=>∃v,e= .returned v/\w'.ownsRow w 5 1 v n (dZ .u8 ls)/\Below w w w':=by
 obtain⟨j0,L,N,M,Q⟩:=info_parts Dh;have HN:=hid hn;have Z:=fun(w:World) (a:Option Addr) (n c:Nat)=>Lib.run_eql_slice_nil (P:=prog) w 28 5 a n c 0 0 underlying28;cases A with
 |none=>obtain⟨rfl,rfl⟩:=y rfl;have hl:ls= []:=Gn hn;subst hl;clear hn y;go_enter func100,ntmps100;go_wp2_with fail;go_ret;exact⟨_,rfl,AI _ _ _ _,Ae _ _⟩
 |some ad=>
  have i:=Jz (c:=c) ha hn y;have G:(w.alloc (.cells #[] 5)).ownsRow w 5 1 (.slice (some ⟨w,0,none⟩) 0 0) 0 []:=World.ownsRow_made w #[] 0 (Ak _) sS rfl
  have E:Src (w.alloc (.cells #[] 5)) (some ad) n c 1 (dZ .u8 ls):=by
   refine⟨i.1, .inr ⟨ad,rfl,fun j u hu=> ?_⟩⟩;rcases i.2 with ⟨h,_⟩|⟨aa,h1,h2⟩
   ·cases h
   ·injection h1 with h1;subst h1;have hc:=h2 j u hu;exact(World.cell?_of_block (EA w _ _ (World.block_lt_of_cell? _ _ hc))).trans hc
  clear hn y i;go_enter func100,ntmps100;go_wp2_with(at_builtin;refine iZ rfl (.tmp 5) (.tmp 6) 28 rfl w 5 j0 _ 1 1 underlying28 L N M Q rfl ip _ _ _ nm G _ n _ (dZ .u8 ls) nm E (Ce _ _) sS nj rX ?_;intro v3 w3 z J U;obtain⟨A3,c3,rfl⟩:=bZ z);go_ret;refine⟨_,rfl,?_,?_⟩
  ·simpa using z
  ·exact(aZ (o:= .cells #[] 5) (Ae _ _)).grown J rX (fun k hk=>by simp[Value.ownBlock]at hk;omega)
def sh(x:Nat):Nat:=if x % 2=1 then(x / 2) ^^^ 3988292384 else x / 2
def shN:Nat->Nat->Nat
 |0,x=>x
 |n+1,x=>shN n (sh x)
theorem Tu(m:Nat):∀ (n x:Nat),shN (n+m) x=shN m (shN n x)
 |0,x=>by rw[Ca];rfl
 |n+1,x=>by rw[show n+1+m=(n+m)+1 by omega,shN,Tu m n];rfl
theorem YN(x y:Nat):(x ^^^ y) % 2=(x % 2+y % 2) % 2:=by have h:=Nat.testBit_xor x y 0;simp only[Nat.testBit_zero]at h;have hx:=L5 x;have hy:=L5 y;have hz:=L5 (x ^^^ y);rcases hx with hx|hx<;>rcases hy with hy|hy<;>rcases hz with hz|hz<;>simp_all
theorem Ys(x y:Nat):(x ^^^ y) / 2=(x / 2) ^^^ (y / 2):=by
 apply Nat.eq_of_testBit_eq
 intro i;rw[Nat.testBit_xor];simp only[Nat.testBit_div_two,Nat.testBit_xor]
theorem eM(x y:Nat):sh (x ^^^ y)=sh x ^^^ sh y:=by
 unfold sh;rw[YN,Ys];have hx:=L5 x;have hy:=L5 y;generalize x / 2=a;generalize y / 2=b;have e:a ^^^ b=(a ^^^ 3988292384) ^^^ (b ^^^ 3988292384):=by rw[Nat.xor_assoc,<-Nat.xor_assoc 3988292384,Nat.xor_comm 3988292384 b,Nat.xor_assoc b,Nat.xor_self,Nat.xor_zero]
 rcases hx with hx|hx<;>rcases hy with hy|hy<;>simp only[hx,hy]
 ·simp
 ·simp[Nat.xor_assoc]
 ·simp only[if_true,Nat.reduceEqDiff,if_false];rw[Nat.xor_assoc,Nat.xor_comm b,<-Nat.xor_assoc]
 ·simp only[Nat.reduceAdd,Nat.reduceMod,if_true,Nat.reduceEqDiff,if_false];exact e
theorem Td:∀ (n x y:Nat),shN n (x ^^^ y)=shN n x ^^^ shN n y
 |0,_,_=>rfl
 |n+1,x,y=>by rw[shN,eM,Td n];rfl
theorem ZQ(x:Nat):sh (2*x)=x:=by unfold sh;rw[Aa nj];omega
theorem SN:∀ (n x:Nat),shN n (2 ^ n*x)=x
 |0,x=>by simp[shN]
 |n+1,x=>by rw[shN,FX,show 2 ^ n*2*x=2*(2 ^ n*x) by rw[Nat.mul_comm (2 ^ n) 2,Nat.mul_assoc],ZQ,SN n]
theorem Wy(h:x<4294967296):sh x<4294967296:=by
 unfold sh;split
 ·exact Nat.xor_lt_two_pow (n:=32) nj ip
 ·omega
theorem J4:∀ (n:Nat) {x:Nat},x<4294967296->shN n x<4294967296
 |0,_,h=>h
 |n+1,_,h=>J4 n (Wy h)
def tab:List Nat:= [0x00000000,0x1DB71064,0x3B6E20C8,0x26D930AC,0x76DC4190,0x6B6B51F4,0x4DB26158,0x5005713C,0xEDB88320,0xF00F9344,0xD6D6A3E8,0xCB61B38C,0x9B64C2B0,0x86D3D2D4,0xA00AE278,0xBDBDF21C]
theorem O7:∀i,i<16->tab.getD i 0=shN 4 i:=ip
theorem aN(n a b:Nat)(hb:b<2 ^ n):2 ^ n*a+b=2 ^ n*a ^^^ b:=by
 rw[Nat.two_pow_add_eq_or_of_lt hb];apply Nat.eq_of_testBit_eq;intro i;rw[Nat.testBit_or,Nat.testBit_xor,Nat.testBit_two_pow_mul];by_cases hi:n<=i
 ·rw[Nat.testBit_lt_two_pow (Ek hb (Cm nj hi))];simp
 ·simp[hi]
theorem four(x:Nat):shN 4 x=(x / 16) ^^^ tab.getD (x % 16) 0:=by
 have e:x=2 ^ 4*(x / 16) ^^^ (x % 16):=by rw[<-aN 4 _ _ nj];omega
 rw[O7 _ nj]
 conv=>lhs;rw[e,Td,SN]
def NW(x c:Nat):Nat:=shN 8 (x ^^^ c)
theorem Z3(x c:Nat):NW x c=shN 4 (shN 4 (x ^^^ c)):=Tu 4 4 _
def run(x:Nat)(bs:List Nat):Nat:=bs.foldl NW x
theorem ZG(x:Nat)(a b:List Nat):run x (a++b)=run (run x a) b:=by unfold run;rw[List.foldl_append]
theorem X9(hx:x<4294967296)(hc:c<256):NW x c<4294967296:=J4 8 (Nat.xor_lt_two_pow (n:=32) hx nj)
theorem dJ{bs:List Nat}:∀ {x:Nat},x<4294967296->(∀c∈bs,c<256)->run x bs<4294967296:=by
 induction bs with
 |nil=>intro x hx _;exact hx
 |cons c l ih=>intro x hx h;exact ih (X9 hx (h c rX)) (fun d hd=>h d (by simp[hd]))
def Bg(bs:List Nat):Nat:=4294967295-run 4294967295 bs
def Al4(s:Nat)(bs:List Nat):Nat:=4294967295-run (4294967295-s) bs
def Bv(s:Nat):List Nat:= [s % 256,s / 256 % 256,s / 65536 % 256,s / 16777216 % 256]
theorem flip(h:x<4294967296):4294967295-x=4294967295 ^^^ x:=by
 apply Nat.eq_of_testBit_eq
 intro i;have e:4294967295-x=2 ^ 32-(x+1):=nj
 rw[e,Nat.testBit_two_pow_sub_succ nj,Nat.testBit_xor,show 4294967295=2 ^ 32-1 by rfl,Nat.testBit_two_pow_sub_one];by_cases hi:i<32
 ·simp[hi]
 ·rw[Nat.testBit_lt_two_pow (x:=x) (Ek h (by have:2 ^ 32<=2 ^ i:=Cm nj nj;exact this))];simp[hi]
theorem Mx(s:Nat):∀c∈Bv s,c<256:=by intro c hc;simp only[Bv,List.mem_cons,List.not_mem_nil,or_false]at hc;rcases hc with rfl|rfl|rfl|rfl<;>omega
def TabAt(w:World):Prop:=∀i,i<16->w.cell? ⟨0,i,none⟩=some (.int .u32 (tab.getD i 0:Nat))
theorem TabAt.lt(h:TabAt w):0<w.heap.size:=World.block_lt_of_cell? _ _ (h 0 nj)
theorem TabAt.below(h:TabAt w)(hb:Below B w w')(hB:0<B):TabAt w':=fun i hi=>(hb.cell (p:=⟨_,i,none⟩) hB).trans (h i hi)
theorem TabAt.step(h:TabAt w)(hb:Below w w w'):TabAt w':=h.below hb h.lt
theorem XO(w:World)(P:Option Addr)(pc:Nat)(A:Option Addr)(n c:Nat)(ls:List Nat)(s:Nat)(hs:s<4294967296)(hn:ls.length=n)(hN:n<=9223372036854775807)(h8:∀x∈ls,x<=255)(ht:TabAt w)
 (hp:Row w w P 1 1 (fun _ _=> .slice A n c))(ha:Row w w A n 1 (jZ .u8 ls)):
 Calls prog 168 #[.int .u32 s, .slice P 1 pc] w fun e w'=>e= .returned (.int .u32 (Al4 s ls:Nat))/\w'=w:=by
 obtain⟨pb,po,rfl,ar,al⟩:=hp nj;have p0:=al 0 0 nj nj;simp only[Nat.zero_mul,Nat.add_zero]at p0;obtain⟨x0,ah⟩:=ii (4294967295-s);have e0:bits .xor .u32 IntKind.u32.max (s:Int)=(x0:Int):=by have h:=u32_xor_nat 4294967295 s nj hs;rw[show IntKind.u32.max=((4294967295:Nat):Int) by decide,h,ah,flip hs]
 have ag:x0<4294967296:=nj
 have an:=hid ah;have HA:=hid ha;have HT:=hid ht;have HN:=hid hn;have H8:=hid h8;clear ha ht hn h8 al hp ah;unfold Al4;rw[<-an.out];go_enter func168,ntmps168;go_wp2_with fail;go_loopw [5,14] (fun xv i wx=>∃ (z:Bool) (x:Nat),xv= .int .u32 x/\i= .int .i64 (if z then 1 else 0)/\Hid (x=if z then run x0 ls else x0)/\x<4294967296/\wx=w) (fun _ i _=>1-(intOf i).toNat)
 case atStart=>exact⟨false,x0,rfl,rfl,rfl,ag,rfl⟩
 case round=>
  obtain⟨z,x,rfl,rfl,hx,E,rfl⟩:=hrel;cases z
  ·obtain rfl:x=x0:=hx.out;clear hx;go_wp2_with fail;go_loopw [5,20] (fun xv i wx=>∃ (k x1:Nat),k<=n/\xv= .int .u32 x1/\i= .int .i64 k/\Hid (x1=run x (ls.take k))/\x1<4294967296/\wx=wr) (fun _ i _=>n-(intOf i).toNat)
   case atStart=>exact⟨0,x,nj,rfl,rfl,rfl,E,rfl⟩
   case round=>
    obtain⟨k,x1,hk,rfl,rfl,Y,j,rfl⟩:=hrel;by_cases ak:k<n
    ·obtain⟨b,au,y,rfl,hb,hy,hc⟩:=CO HA.out HN.out ak;have am:k<ls.length:=(by rw[HN.out];exact ak);have aq:y<=255:=H8.out y (Bp hy);have Z:run x (ls.take (k+1))=NW x1 y:=(by rw[Cw,hy,Option.toList,ZG,<-Y.out];rfl);rw[Z3]at Z;obtain⟨x2,Q⟩:=ii (x1 ^^^ y);have M:x2<4294967296:=(by rw[Q];exact Nat.xor_lt_two_pow (n:=32) j nj);have e1:bits .xor .u32 (x1:Int) (y:Int)=(x2:Int):=(by rw[u32_xor_nat x1 y j nj,Q]);obtain⟨j2,af⟩:=ii (x2 % 16);have e2:bits .and .u32 (x2:Int) 15=(j2:Int):=(by rw[show(15:Int)=((15:Nat):Int) from rfl,u32_and_nat x2 15 M nj,af,show 15=2 ^ 4-1 from rfl,Ow]);obtain⟨x3,U⟩:=ii (shN 4 x2);have L:x3<4294967296:=(by rw[U];exact J4 4 M);have G:j2<16:=nj;have t2:=HT.out j2 G;have ab:tab.getD j2 0<4294967296:=(by rw[O7 j2 G];exact J4 4 nj);obtain⟨d2,aj⟩:=ii (x2 / 16);have e3:bits .xor .u32 (d2:Int) (tab.getD j2 0:Nat)=(x3:Int):=(by rw[u32_xor_nat d2 _ nj ab,U,four,aj,af]);obtain⟨j3,aa⟩:=ii (x3 % 16);have e4:bits .and .u32 (x3:Int) 15=(j3:Int):=(by rw[show(15:Int)=((15:Nat):Int) from rfl,u32_and_nat x3 15 L nj,aa,show 15=2 ^ 4-1 from rfl,Ow]);obtain⟨x4,N⟩:=ii (shN 4 x3);have ac:x4<4294967296:=(by rw[N];exact J4 4 L);have J:j3<16:=nj;have t3:=HT.out j3 J;have ae:tab.getD j3 0<4294967296:=(by rw[O7 j3 J];exact J4 4 nj);obtain⟨d3,ai⟩:=ii (x3 / 16);have e5:bits .xor .u32 (d3:Int) (tab.getD j3 0:Nat)=(x4:Int):=(by rw[u32_xor_nat d3 _ nj ae,N,four,ai,aa]);have q2:((x2:Int) / 16)=(d2:Int):=nj;have q3:((x3:Int) / 16)=(d3:Int):=nj;have s1:IntKind.u32.wrap (y:Int)=(y:Int):=qm;have s2:IntKind.u32.wrap (d2:Int)=(d2:Int):=qm;have s3:IntKind.u32.wrap (d3:Int)=(d3:Int):=qm;rw[<-Q,<-U,<-N]at Z;generalize tab.getD j2 0=u2 at *;generalize tab.getD j3 0=u3 at *;have HY:=hid Z;have y0:(0:Int)<=(k:Int):=nj;have y1:(k:Int)<(n:Int):=nj;have y2:(0:Int)<=(j2:Int):=nj;have y3:(j2:Int)<16:=nj;have y4:(0:Int)<=(j3:Int):=nj;have y5:(j3:Int)<16:=nj;clear Z Q U N af aa aj ai hy am Y e0;go_wp2_with fail;go_roundw
     case measure=>exact jq
     case rel=>go_light;exact⟨k+1,x4,nj,iz,jr,HY.out.symm,ac,iz⟩
    ·obtain rfl:k=n:=by omega
     have h:=Y.out;rw[Cf py]at h;have HR:=hid h;clear h Y e0;go_wp2_with fail;go_roundw
     case measure=>go_light;simp[intOf]
     case rel=>go_light;exact⟨true,x1,iz,iz,HR.out,j,iz⟩
  ·have h:=hx.out;simp only[if_true]at h;have hr:run x0 ls<4294967296:=(by rw[<-h];exact E);have e9:bits .xor .u32 IntKind.u32.max (x:Int)=((4294967295-x:Nat):Int):=(by have h:=u32_xor_nat 4294967295 x nj E;rw[show IntKind.u32.max=((4294967295:Nat):Int) by decide,h,flip E]);have HR:=hid h;clear h hx hr e0;go_wp2_with fail;go_ret;exact⟨IR (by rw[<-HR.out]),rfl⟩
theorem Ah9(w:World)(A:Option Addr)(n c:Nat)(ls:List Nat)(hn:ls.length=n)(hN:n<=9223372036854775807)(h8:∀x∈ls,x<=255)(ht:TabAt w)(ha:Row w w A n 1 (jZ .u8 ls)):
 Calls prog 102 #[.slice A n c] w fun e w'=>e= .returned (.int .u32 (Bg ls:Nat))/\Below w w w':=by
 have hb:Below w w (w.alloc (.cells #[.slice A n c] 28)):=aZ (Ae _ _)
 have D:=XO (w.alloc (.cells #[.slice A n c] 28)) (some ⟨w,0,none⟩) 1 A n c ls 0 nj hn hN h8 (ht.step hb)
  (Row.of_blk (Blk.made _ _ _) rX (fun i j hi hj=>match i,j,hi,hj with|0,0,_,_=>rfl)) ((ha.below hb).mono hb.size)
 have D:=hid D;clear ha ht h8 hn;go_enter func102,ntmps102;go_wp2_with fail;refine D.out.mono ?_;rintro e w1 ⟨rfl,rfl⟩;go_wp2_with fail;go_ret;exact⟨rfl,hb⟩
theorem Vr(s:Nat):(Bv s).length=4:=rfl
def N7(s:Nat)(w:World)(e:Ending)(w':World):Prop:=
 ∃g,e= .returned (.slice (some ⟨g,0,none⟩) 4 4)/\w.heap.size<=g/\Blk w' g 5 (dZ .u8 (Bv s)).toArray/\Below w w w'
theorem US(w:World)(s:Nat)(hs:s<4294967296):Calls prog 101 #[.int .u32 s] w (N7 s w):=by
 obtain⟨d1,G⟩:=ii (s / 256);obtain⟨d2,j⟩:=ii (s / 65536);obtain⟨d3,E⟩:=ii (s / 16777216);obtain⟨b0,y⟩:=ii (s % 256);obtain⟨b1,i⟩:=ii (d1 % 256);obtain⟨b2,z⟩:=ii (d2 % 256);obtain⟨b3,h⟩:=ii (d3 % 256);have ht:Bv s= [b0,b1,b2,b3]:=by rw[y,i,z,h,G,j,E];rfl
 have q1:((s:Int) / 256)=(d1:Int):=nj
 have q2:((s:Int) / 65536)=(d2:Int):=nj
 have q3:((s:Int) / 16777216)=(d3:Int):=nj
 have s1:IntKind.u32.wrap (d1:Int)=(d1:Int):=qm
 have s2:IntKind.u32.wrap (d2:Int)=(d2:Int):=qm
 have s3:IntKind.u32.wrap (d3:Int)=(d3:Int):=qm
 have r0:IntKind.u8.wrap (s:Int)=(b0:Int):=ql
 have r1:IntKind.u8.wrap (d1:Int)=(b1:Int):=ql
 have r2:IntKind.u8.wrap (d2:Int)=(b2:Int):=ql
 have r3:IntKind.u8.wrap (d3:Int)=(b3:Int):=ql
 unfold N7;rw[ht];clear G j E y i z h ht hs;go_enter func101,ntmps101;go_wp2_with fail;go_ret;exact⟨w.heap.size,rfl,Ak _,Blk.made _ _ _,aZ (Ae _ _)⟩
def GN(ls:List Nat)(w:World)(e:Ending)(w':World):Prop:=
 ∃v,e= .returned v/\w'.ownsRow w 5 1 v (ls.length+4) (dZ .u8 (ls++Bv (Bg ls)))/\Below w w w'
theorem Ve(k:IntKind)(a b:List Nat):dZ k (a++b)=dZ k a++dZ k b:=su
theorem Ad2(w:World)(A:Option Addr)(n c:Nat)(ls:List Nat)(hn:ls.length=n)(ag:n<=100000)(E:A=none->n=0/\c=0)(h8:∀x∈ls,x<=255)(ht:TabAt w)(ha:Row w w A n 1 (jZ .u8 ls)):
 Calls prog 49 #[.slice A n c] w (GN ls w):=by
 obtain⟨j0,ah,ae,ab,ai⟩:=info_parts Dh;have D1:=hid (IS w A n c ls hn ag E ha);have D2:=fun(wx:World) (h:Below w w wx)=>Ah9 wx A n c ls hn nj h8 (ht.step h) ((ha.below h).mono h.size);have D2:=hid D2;have af:Bg ls<4294967296:=by unfold Bg;omega
 have D3:=hid (fun wx=>US wx (Bg ls) af);have Z:=Vr (Bg ls);unfold GN;rw[Ve,hn];unfold N7 at D3;generalize Bg ls=s at *;have HT:=hid Z;clear hn E h8 ht ha Z;go_enter func49,ntmps49;go_wp2_with fail;refine D1.out.mono ?_;rintro e w1 ⟨v1,rfl,i,U⟩;obtain⟨A1,c1,rfl⟩:=bZ i;have G:=hid i;have j:=hid U;clear i U D1;go_wp2_with fail;refine(D2.out _ j.out).mono ?_;rintro e w2 ⟨rfl,N⟩;have M:=hid (eZ G.out (fun x hx=>N.block x (Aj G.out x hx).2));have J:Hid (Below w w w2):=j.out.trans (N.mono j.out.size);clear N j G D2;go_wp2_with fail;refine(D3.out _).mono ?_;rintro e w3 ⟨g,rfl,hg,z,Q⟩;have Y:=hid (eZ M.out (fun x hx=>Q.block x (Aj M.out x hx).2));have aa:Hid (Below w w w3):=J.out.trans (Q.mono J.out.size);have ak:=aa.out.size;have HK:=hid z;clear Q J M D3 z;go_wp2_with(at_builtin;refine iZ rfl (.tmp 4) (.tmp 7) 28 rfl w 5 j0 _ 1 1 underlying28 ah ae ab ai rfl ip _ _ _ nm Y.out _ 4 4 (dZ .u8 (Bv s)) nm (by simpa using Src.of_blk HK.out 4 4 1 (by rw[List.size_toArray,VC,HT.out])) (Ce _ _) sS nj nj ?_;intro v4 w4 L ac aj);go_ret;exact⟨_,rfl,L,aa.out.grown ac nj (fun y hy=>(Aj Y.out y hy).1)⟩
theorem Ae4{f:Nat->Nat->Value}(h:Row w B A n s f)(hm:m<=n):Row w B A m s f:=fun h0=>by obtain⟨b,y,e,hb,hc⟩:=h nj;exact⟨b,y,e,hb,fun i j hi hj=>hc i j nj hj⟩
theorem mD(h:i<m):(ls.take m).getD i 0=ls.getD i 0:=by rw[Aq,List.getElem?_take_of_lt h,<-Aq]
theorem Fj(h:Row w B A n 1 (jZ k ls))(hm:m<=n):Row w B A m 1 (jZ k (ls.take m)):=
 (Ae4 h hm).congr fun i j hi _=>by unfold jZ;rw[mD hi]
theorem ET(h:Row w B A n 1 (jZ k ls))(hm:m<=n)(hc:n<=c):Row w B (AR A m c 1) (n-m) 1 (jZ k (ls.drop m)):=
 h.cut m (n-m) nj hc fun i j _ _=>by unfold jZ;rw[Aq,Aq,Iy]
theorem EG{P:Program}{t:TypeId}(ht:P.underlying t=some (.slice e))(hs:∀w,(sizeOf e).run P w= .ok s w)(A:Option Addr)(len i:Nat)(kh:IntKind)(h:Int)(m:Nat)(hh:h=m)(hm:m<=i)(hA:∀a,A=some a->a.add 0=a)(w:World):
 (Instr.slice t (.slice A len i) none (some (.int kh h)) none).run P w= .ok (.slice A m i) w:=by
 subst hh;have he:P.elem t=e:=sn
 rw[run_slice_h w t A len i rc kh (m:Int) nj nj,he,hs];cases A with
 |none=>simp[Result.andThen,sliced]
 |some a=>simp[Result.andThen,sliced,hA a rfl]
theorem Sz{la lb:List Nat}{k:Nat}(h:k<la.length)(h':k<lb.length):decide (la.drop k=lb.drop k)=(decide (la.getD k 0=lb.getD k 0)&&decide (la.drop (k+1)=lb.drop (k+1))):=by rw[Aq,Aq,Az h,Az h',Gz,Gz,KL,Cp,decide_eq_true_eq,decide_eq_true_eq,decide_eq_true_eq,Dl h,Dl h',List.cons.injEq]
theorem lK(w:World)(A B:Option Addr)(n c d:Nat)(la lb:List Nat)(hn:la.length=n)(hm:lb.length=n)(hN:n<=9223372036854775807)(ha:Row w w A n 1 (jZ .u8 la))(hb:Row w w B n 1 (jZ .u8 lb)):
 Calls prog 117 #[.slice A n c, .slice B n d] w fun e w'=>e= .returned (.bool (decide (la=lb)))/\Below w w w':=by
 have HA:=hid ha;have HB:=hid hb;have HN:=hid hn;have HM:=hid hm;clear ha hb hn hm;go_enter func117,ntmps117;go_wp2_with fail;go_loopw [13] (fun i wx=>∃k:Nat,k<=n/\i= .int .i64 k/\Hid (decide (la.drop k=lb.drop k)=decide (la=lb))/\Hid (Below w w wx)) (fun i _=>n-(intOf i).toNat)
 case atStart=>exact⟨0,nj,rfl,rfl,Ae _ _⟩
 case round=>
  obtain⟨k,hk,rfl,hE,h⟩:=hrel;by_cases j:k<n
  ·obtain⟨b1,o1,x1,rfl,J,z,M⟩:=CO (HA.out.below h.out) HN.out j;obtain⟨b2,o2,x2,rfl,L,E,G⟩:=CO (HB.out.below h.out) HM.out j;have he:=hE.out;rw[Sz (by rw[HN.out];exact j) (by rw[HM.out];exact j),Aq,Aq,z,E]at he;simp only[Option.getD_some]at he;have y0:(0:Int)<=(k:Int):=nj;have y1:(k:Int)<(n:Int):=nj;clear z E hE;by_cases y:x1=x2
   ·subst y;rw[Bd rfl,Bool.true_and]at he;have HE:=hid he;have e1:((x1:Int) != (x1:Int))=false:=rX;clear he;go_wp2_with fail;go_quiet (fail);go_wp2_with fail;go_roundw
    case measure=>exact jq
    case rel=>go_light;exact⟨k+1,nj,jr,HE.out,below_drewN h.out _⟩
   ·rw[Be y,JG]at he;have HE:=hid he;have e1:((x1:Int) != (x2:Int))=true:=sj;clear he y;go_wp2_with fail;go_quiet (fail);go_wp2_with fail;go_ret;exact⟨GV HE.out,below_drewN h.out _⟩
  ·obtain rfl:k=n:=by omega
   have he:=hE.out;rw[El py,El (by rw[HM.out];exact Ak _)]at he;have HE:=hid he;clear he hE;go_wp2_with fail;go_ret;exact⟨GV (by rw[<-HE.out];rfl),h.out⟩
def BI(ls:List Nat):Int:=if ls.length<4 then 1 else if ls.drop (ls.length-4)=Bv (Bg (ls.take (ls.length-4)))then 0 else 5
def AJ(ls:List Nat):List Nat:=if BI ls=0 then ls.take (ls.length-4)else []
def GK(ls:List Nat)(w:World)(e:Ending)(w':World):Prop:=
 ∃v,e= .returned (.tuple #[v, .int .i64 (BI ls)])/\w'.ownsRow w 5 1 v (AJ ls).length (dZ .u8 (AJ ls))/\Below w w w'
theorem KF(w:World)(A:Option Addr)(n c:Nat)(ls:List Nat)(hn:ls.length=n)(ag:n<=100000)(hc:n<=c)(h8:∀x∈ls,x<=255)(ht:TabAt w)(ha:Row w w A n 1 (jZ .u8 ls)):
 Calls prog 60 #[.slice A n c] w (GK ls w):=by
 unfold GK;by_cases h4:n<4
 ·have hE:BI ls=1:=by unfold BI;rw[Ab nj]
  have hO:AJ ls= []:=by unfold AJ;rw[hE];rfl
  rw[hE,hO];have s1:IntKind.i64.wrap ((n:Int)-4)=(n:Int)-4:=pi
  have g1:=ic ((n:Int)-4<0)
  clear ha ht h8 hn hE hO;go_enter func60,ntmps60;go_wp2_with fail;go_ret2;exact⟨_,rfl,AI _ _ _ _,Ae _ _⟩
 ·obtain⟨m,rfl⟩:∃m,n=m+4:=⟨n-4,nj⟩;obtain⟨ab,ao,rfl,ah,af⟩:=ha nj;have M:ls.length-4=m:=by omega
  have s1:IntKind.i64.wrap ((((m+4:Nat)):Int)-4)=(m:Int):=pj
  have g1:=ig ((m:Int)<0)
  have hb:=Fj ha (show m<=m+4 by omega);have hd:=ET ha (show m<=m+4 by omega) hc;rw[show m+4-m=4 by omega]at hd;have G:(ls.take m).length=m:=oj
  have Q:(ls.drop m).length=4:=nz
  have U:∀x∈ls.take m,x<=255:=fun x hx=>h8 x (BX hx);have aa:Bg (ls.take m)<4294967296:=by unfold Bg;omega
  have k1:=fun wx=>Gr (P:=prog) (t:=28) (s:=1) underlying28 (fun _=>by kernel_rfl) (some ⟨ab,ao,none⟩) (m+4) c .i64 (m:Int) m rfl nj wx;have k2:=fun wx=>EG (P:=prog) (t:=28) (s:=1) underlying28 (fun _=>by kernel_rfl) (some ⟨ab,ao,none⟩) (m+4) c .i64 (m:Int) m rfl nj (fun a ha=>by injection ha with ha;subst ha;exact Gj ab ao 0) wx;rw[show m+4-m=4 by omega]at k1;have D1:=hid (fun(wx:World) (h:Below w w wx)=>Ah9 wx (some ⟨ab,ao,none⟩) m c (ls.take m) G nj U (ht.step h) ((hb.below h).mono h.size));have D2:=hid (fun wx=>US wx (Bg (ls.take m)) aa);have Z:=Vr (Bg (ls.take m));unfold N7 at D2;have hE:BI ls=if ls.drop m=Bv (Bg (ls.take m))then 0 else 5:=by unfold BI;rw[Aa nj,M]
  have hO:AJ ls=if BI ls=0 then ls.take m else []:=by unfold AJ;rw[M]
  generalize AR (some ⟨ab,ao,none⟩) m c 1=A1 at *
  have D3:Hid (∀ (wx:World) g,Below w w wx->Blk wx g 5 (dZ .u8 (Bv (Bg (ls.take m)))).toArray->Calls prog 117 #[.slice A1 4 (c-m), .slice (some ⟨g,0,none⟩) 4 4] wx fun e w'=>e= .returned (.bool (decide (ls.drop m=Bv (Bg (ls.take m)))))/\Below wx wx w'):=by
   intro wx g h hg;refine lK wx A1 (some ⟨g,0,none⟩) 4 (c-m) 4 _ _ Q Z nj ((hd.below h).mono h.size) (Row.of_blk hg hg.lt fun i j hi hj=> ?_);obtain rfl:j=0:=nj
   rw[CZ,Bt];simp[dZ,jZ,List.getD_eq_getElem?_getD,List.getElem?_eq_getElem (show i<(Bv (Bg (ls.take m))).length by omega)]
  have D4:=hid (fun(wx:World) (h:Below w w wx)=>IS wx (some ⟨ab,ao,none⟩) m c (ls.take m) G nj (fun h=>by cases h) ((hb.below h).mono h.size));generalize Bg (ls.take m)=s at *;clear ha af hb hd h8 ht U h4 M hn;have ae:=hid G;clear G Q Z;by_cases y:ls.drop m=Bv s
  ·rw[Ab y]at hE;rw[hE,Ab rfl]at hO;rw[hE,hO,ae.out];rw[Bd y]at D3;clear y hE hO;go_enter func60,ntmps60;go_upto_region 4 with fail;go_region_held3 (fun _=>True) (trivial) (first|(go_at_call 102;(with_reducible refine(D1.out _ sT).mono ?_);rintro e w1 ⟨rfl,L⟩)|(go_at_call 101;(with_reducible refine(D2.out _).mono ?_);rintro e w2 ⟨g,rfl,hg,E,N⟩)|(go_at_call 117;(with_reducible refine(D3.out _ _ sT im).mono ?_);rintro e w3 ⟨rfl,J⟩));have z:Below w w w3:=sT;have HB:=hid z;clear L N J z E D1 D2 D3;go_wp2_with fail;refine(D4.out _ HB.out).mono ?_;rintro e w4 ⟨v,rfl,Y,ac⟩;go_wp2_with fail;go_ret2;exact⟨_,rfl,kZ Y HB.out.size,HB.out.trans (ac.mono HB.out.size)⟩
  ·rw[Aa y]at hE;rw[hE,Aa nj]at hO;rw[hE,hO];rw[Be y]at D3;clear y hE hO;go_enter func60,ntmps60;go_upto_region 4 with fail;go_region_held3 (fun _=>True) (trivial) (first|(go_at_call 102;(with_reducible refine(D1.out _ sT).mono ?_);rintro e w1 ⟨rfl,L⟩)|(go_at_call 101;(with_reducible refine(D2.out _).mono ?_);rintro e w2 ⟨g,rfl,hg,E,N⟩)|(go_at_call 117;(with_reducible refine(D3.out _ _ sT im).mono ?_);rintro e w3 ⟨rfl,J⟩));have z:Below w w w3:=sT;have HB:=hid z;clear L N J z E D1 D2 D3;go_wp2_with fail;go_ret2;exact⟨_,rfl,AI _ _ _ _,HB.out⟩
theorem Xr(w:World)(x:Nat)(hx:x<4294967296):Calls prog 257 #[.int .u32 x] w fun e w'=>e= .returned (.int .u32 (sh x:Nat))/\w'=w:=by
 have e0:bits .xor .u32 ((x / 2:Nat):Int) 3988292384=(((x / 2) ^^^ 3988292384:Nat):Int):=by have h:=u32_xor_nat (x / 2) 3988292384 nj nj;exact h
 have c0:((x:Int) / 2)=((x / 2:Nat):Int):=nj
 by_cases h2:x % 2=1
 ·have g1:((x:Int) % 2==1)=true:=by rw[beq_iff_eq];omega
  have hs:sh x=(x / 2) ^^^ 3988292384:=Ab h2;rw[hs];rw[<-c0]at e0;generalize (x / 2) ^^^ 3988292384=y at *;clear hs c0 h2;go_enter func257,ntmps257;go_wp2_with fail;go_ret;exact⟨rfl,rfl⟩
 ·have g1:((x:Int) % 2==1)=false:=by rw[FW];omega
  have hs:sh x=x / 2:=Aa h2;rw[hs];clear hs e0 h2 c0;go_enter func257,ntmps257;go_wp2_with fail;go_ret;exact⟨rX,rfl⟩
theorem kO(w:World)(s:Nat)(hs:s<4294967296)(A:Option Addr)(n c:Nat)(ls:List Nat)(hn:ls.length=n)(af:n<=1000000)(h8:∀x∈ls,x<=255)(ha:Row w w A n 1 (jZ .u8 ls)):
 Calls prog 209 #[.int .u32 s, .slice A n c] w fun e w'=>e= .returned (.int .u32 (Al4 s ls:Nat))/\Below w w w':=by
 have e0:IntKind.u32.wrap (4294967295-(s:Int))=((4294967295-s:Nat):Int):=qm
 obtain⟨R,hR⟩:=ii (run (4294967295-s) ls);have ah:R<4294967296:=by rw[hR];exact dJ nj (fun c hc=>by have:=h8 c hc;omega)
 have hm:Al4 s ls=4294967295-R:=by unfold Al4;rw[hR]
 rw[hm];have G:Hid (run (4294967295-s) (ls.drop 0)=R):=hR.symm
 have HA:Hid (∀i,i<n->∃b j,A=some ⟨b,j,none⟩/\w.cell? ⟨b,j+i,none⟩=some (.int .u8 (ls.getD i 0:Nat))/\b<w.heap.size/\ls.getD i 0<=255/\ls.drop i=ls.getD i 0 :: ls.drop (i+1)):=fun i hi=>by
  obtain⟨b,j,rfl,L,hc⟩:=ha nj;have:=hc i 0 hi nj;simp only[jZ,Nat.mul_one,Nat.add_zero]at this;have hg:ls.getD i 0=ls[i]:=by rw[Aq,Az nj];rfl
  exact⟨b,j,rfl,this,L,by rw[hg];exact h8 _ (FM nj),by rw[hg];exact Dl nj⟩
 have HE:Hid (ls.drop n= []):=List.drop_eq_nil_of_le nj;have B:=fun(w:World) (x:Nat) (hx:x<4294967296)=>Xr w x hx;have HB:=hid B;obtain⟨x0,U⟩:=ii (4294967295-s);have N:x0<4294967296:=nj
 rw[<-U]at e0 G;clear hR hm h8 ha hn B U;go_enter func209,ntmps209;go_wp2_with fail;go_loopw [5,6] (fun u v wr=>∃x i:Nat,u= .int .u32 x/\v= .int .i64 i/\x<4294967296/\i<=n/\Hid (run x (ls.drop i)=R)/\wr=w) (fun _ v _=>n-(intOf v).toNat)
 case atStart=>exact⟨x0,0,rfl,rfl,N,nj,G.out,rfl⟩
 case round=>
  obtain⟨x,i,rfl,rfl,hx,hi,HR,rfl⟩:=hrel;clear G;by_cases ae:i<n
  ·obtain⟨b,j,rfl,hc,L,ag,hd⟩:=HA.out i ae;have g1:=ic ((i:Int)<n);have ac:=ic (i<n);have y0:(0:Int)<=(i:Int):=nj;have y1:(i:Int)<(n:Int):=nj;have s2:IntKind.i64.wrap ((i:Int)+1)=((i+1:Nat):Int):=pj;have M:Hid (run (shN 8 (x ^^^ ls.getD i 0)) (ls.drop (i+1))=R):=(by have h:=HR.out;rw[hd]at h;exact h);generalize ls.getD i 0=y at *;have e1:bits .xor .u32 (x:Int) (y:Int)=((x ^^^ y:Nat):Int):=u32_xor_nat x y hx nj;have e2:IntKind.u32.wrap (y:Int)=(y:Int):=qm;have ab:x ^^^ y<4294967296:=Nat.xor_lt_two_pow (n:=32) hx nj;generalize x ^^^ y=z at *;clear hd HR;obtain⟨w0,rfl⟩:=ii wr;go_wp2_with fail;go_loopw [5,7] (fun u v wr=>∃a k:Nat,u= .int .u32 a/\v= .int .i64 k/\a<4294967296/\k<=8/\Hid (shN (8-k) a=shN 8 z)/\wr=w0) (fun _ v _=>8-(intOf v).toNat)
   case atStart=>exact⟨z,0,rfl,rfl,ab,nj,by exact(rfl:shN 8 z=shN 8 z),rfl⟩
   case round=>
    obtain⟨a,k,rfl,rfl,J,hk,HS,rfl⟩:=hrel;by_cases h8:k<8
    ·have g2:=ic ((k:Int)<8);have ai:=ic (k<8);have s3:IntKind.i64.wrap ((k:Int)+1)=((k+1:Nat):Int):=pj;have E:Hid (shN (8-(k+1)) (sh a)=shN 8 z):=(by have h:=HS.out;rw[show 8-k=(8-(k+1))+1 by omega]at h;exact h);have Z:=Wy J;have Q:=hid (HB.out wr a J);generalize sh a=a' at *;clear HS;go_wp2_with fail;refine Q.out.mono ?_;rintro e w9 ⟨rfl,rfl⟩;clear Q;go_wp2_with fail;go_roundw
     case measure=>exact jq
     case rel=>go_light;exact⟨a',k+1,rfl,rfl,Z,nj,E.out,trivial⟩
    ·obtain rfl:k=8:=by omega
     have E:Hid (a=shN 8 z):=HS.out;have Y:Hid (run a (ls.drop (i+1))=R):=(by rw[E.out];exact M.out);clear HS M E;go_wp2_with fail;go_roundw
     case measure=>exact jq
     case rel=>go_light;exact⟨a,i+1,rfl,rfl,J,nj,Y.out,trivial⟩
  ·obtain rfl:i=n:=by omega
   have aa:Hid (x=R):=(by have h:=HR.out;rw[HE.out]at h;exact h);have e1:IntKind.u32.wrap (4294967295-(x:Int))=((4294967295-x:Nat):Int):=qm;have g1:=ig ((i:Int)<i);have ac:=ig (i<i);go_wp2_with fail;go_ret;exact⟨by rw[<-aa.out];first|rfl|simp,Ae _ _⟩
theorem rD(w:World)(A:Option Addr)(n c:Nat)(ls:List Nat)(hn:ls.length=n)(h:n<=1000000)(h8:∀x∈ls,x<=255)(ha:Row w w A n 1 (jZ .u8 ls)):
 Calls prog 140 #[.slice A n c] w fun e w'=>e= .returned (.int .u32 (Bg ls:Nat))/\Below w w w':=by
 have D:=hid (kO w 0 nj A n c ls hn h h8 ha);have hm:Al4 0 ls=Bg ls:=rfl;rw[hm]at D;clear hn h8 ha hm;go_enter func140,ntmps140;go_wp2_with fail;refine D.out.mono ?_;rintro e w1 ⟨rfl,hb⟩;go_wp2_with fail;go_ret;exact⟨rfl,hb⟩
def IG(s:Nat):Nat->List Nat
 |0=> []
 |k+1=>s % 256 :: IG (s / 256) k
theorem Zj:IG s 4=Bv s:=by simp[IG,Bv,Nat.div_div_eq_div_mul]
theorem Li(w:World)(A:Option Addr)(n c:Nat)(ls:List Nat)(hn:ls.length=n)(ag:n<=1000000)(z:A=none->n=0/\c=0)(h8:∀x∈ls,x<=255)(ha:Row w w A n 1 (jZ .u8 ls)):
 Calls prog 78 #[.slice A n c] w (GN ls w):=by
 obtain⟨j0,U,ab,Z,af⟩:=info_parts Dh;have D:=hid (rD w A n c ls hn ag h8 ha);have ak:Bg ls<4294967296:=by unfold Bg;omega
 unfold GN;rw[<-Zj];generalize Bg ls=s at *;have E:Hid (∀wx,Below w w wx->Src wx A n c 1 (dZ .u8 ls)):=fun wx hb=>Jz ((ha.below hb).mono hb.size) hn z;have HN:=hid hn;obtain⟨R,hR⟩:=ii (ls++IG s 4);have ac:Hid (ls++IG s 4=R):=hR.symm;have aq:Hid (R.length=n+4):=by rw[hR,Ag,hn];exact rfl
 rw[<-hR];clear hR;rw[hn];clear hn z h8 ha;go_enter func78,ntmps78;go_wp2_with fail;refine D.out.mono ?_;rintro e w1 ⟨rfl,hb⟩;have M:=hid hb;clear D hb;have ai:=M.out.size
 have G:Hid ((w1.alloc (.cells #[] 5)).ownsRow w 5 1 (.slice (some ⟨w1,0,none⟩) 0 0) 0 []):=
  ⟨rfl, .inr ⟨w1.heap.size,0,#[],rfl,ai,heap_alloc_new w1 _,Ak _,sS,rfl,rfl⟩⟩
 have J:Hid (Below w w (w1.alloc (.cells #[] 5))):=aZ M.out;have ae:=hid (E.out _ J.out);clear M E;go_wp2_with(at_builtin;refine iZ rfl (.tmp 8) (.tmp 9) 28 rfl w 5 j0 _ 1 1 underlying28 U ab Z af rfl ip _ _ _ nm G.out _ _ _ _ nm ae.out (Ce _ _) sS nj sj ?_;intro v4 w4 i aa N);have Y:Hid (w4.ownsRow w 5 1 v4 (n+0) (dZ .u8 ls)):=by rw[show n+0=0+n by omega];exact i
 have Q:Hid (Below w w w4):=J.out.grown aa sj (fun y hy=>(Aj G.out y hy).1);clear i aa N G J ae;go_loopw [3,4,5] (fun u v t wr=>∃ (a k:Nat) (done:List Nat),u= .int .u32 a/\t= .int .i64 k/\a<4294967296/\k<=4/\Hid (done++IG a (4-k)=R)/\Hid (wr.ownsRow w 5 1 v (n+k) (dZ .u8 done))/\Hid (Below w w wr)) (fun _ _ t _=>4-(intOf t).toNat)
 case atStart=>exact⟨s,0,ls,rfl,rfl,ak,nj,ac.out,Y.out,Q.out⟩
 case round=>
  obtain⟨a,k,done,rfl,rfl,ar,hk,HR,HO,HB⟩:=hrel;clear Y Q ac;have hz:=HB.out.size;by_cases h4:k<4
  ·have g2:=ic ((k:Int)<4);have an:=ic (k<4);have s3:IntKind.i64.wrap ((k:Int)+1)=((k+1:Nat):Int):=pj;have c1:IntKind.u8.wrap ((a:Int) % 256)=((a % 256:Nat):Int):=ql;have j:Hid ((done++ [a % 256])++IG (a / 256) (4-(k+1))=R):=(by have h:=HR.out;rw[show 4-k=(4-(k+1))+1 by omega,IG]at h;rw[AE];exact h);obtain⟨b,hb⟩:=ii (a % 256);rw[<-hb]at c1 j;clear hb HR;go_wp2_with(at_builtin;refine iZ rfl (.tmp 15) (.tmp 19) 28 rfl w 5 j0 _ 1 1 underlying28 U ab Z af rfl ip _ _ _ nm (HO.out.alloc _) _ 1 1 [.int .u8 (b:Nat)] nm (Src.of_blk (g:=wr.heap.size) (Blk.made _ _ _) 1 1 1 rfl) mp sS nj sj ?_;intro v5 w5 L ah am);have al:Hid (w5.ownsRow w 5 1 v5 (n+(k+1)) (dZ .u8 (done++ [b]))):=(by rw[show dZ .u8 (done++ [b])=dZ .u8 done++ [.int .u8 (b:Nat)] by simp[dZ]];exact L);have aj:Hid (Below w w w5):=(aZ HB.out).grown ah sj (fun y hy=>(Aj HO.out y hy).1);exact⟨⟨a / 256,k+1,done++ [b],Aw _ nj,rfl,nj,nj,j.out,al.out,aj.out⟩,sG⟩
  ·obtain rfl:k=4:=by omega
   have j:Hid (done=R):=(by have h:=HR.out;rw[show 4-4=0 from rfl,IG,Cg]at h;exact h);clear HR;go_wp2_with fail;go_ret;exact⟨_,rfl,by rw[<-j.out];exact HO.out,HB.out⟩
def FG(ls:List Nat)(s:Int):Nat:=if s<0 then 0 else ls.getD s.toNat 0
theorem YX(w:World)(g B:Nat)(A:Option Addr)(n c:Nat)(ls:List Nat)(s:Int)(hn:ls.length=n)(hs: -9223372036854775808<=s/\s<=9223372036854775807)
 (h:∀x∈ls,x<=255)(hg:w.cell? ⟨g,0,none⟩=some (.slice A n c))(ha:Row w B A n 1 (jZ .u8 ls)):
 Calls prog 319 #[.pointer (some ⟨g,0,none⟩),s] w fun e w'=>e= .returned (.int .i64 (FG ls s:Nat))/\w=w':=by
 obtain⟨j,z⟩:=hs;by_cases h0:s<0
 ·have e0:FG ls s=0:=by unfold FG;rw[Ab h0]
  rw[e0];clear h hn;go_enter func319,ntmps319;go_wp2_with fail;go_ret;exact⟨rfl,rfl⟩
 ·obtain⟨m,rfl⟩:=I8 (show 0<=s by omega);by_cases h1:m<n
  ·obtain⟨b,y,x,rfl,hb,hx,hc⟩:=CO ha hn h1;have i:x<=255:=h x (Bp hx);have e0:FG ls (m:Int)=x:=(by unfold FG;rw[Aa h0];simp[List.getD_eq_getElem?_getD,hx]);rw[e0];have x0:(0:Int)<=(m:Int):=nj;have x1:(m:Int)<(n:Int):=nj;clear h hn hx;go_enter func319,ntmps319;go_wp2_with fail;go_ret;exact⟨jr,rfl⟩
  ·have e0:FG ls (m:Int)=0:=(by unfold FG;rw[Aa h0];simp[List.getD_eq_getElem?_getD,List.getElem?_eq_none (show ls.length<=m by omega)]);rw[e0];have x1:¬(m:Int)<(n:Int):=nj;clear h hn;go_enter func319,ntmps319;go_wp2_with fail;go_ret;exact⟨rfl,rfl⟩
theorem Ai1(w:World)(g B:Nat)(A:Option Addr)(n c:Nat)(ls:List Nat)(s:Int)(hn:ls.length=n)(hs: -9223372036854775808<=s/\s<=9223372036854775807)
 (h:∀x∈ls,x<=255)(hg:w.cell? ⟨g,0,none⟩=some (.slice A n c))(ha:Row w B A n 1 (jZ .u8 ls)):
 Calls prog 278 #[.pointer (some ⟨g,0,none⟩),s] w fun e w'=>e= .returned (.int .i64 (FG ls s:Nat))/\w=w':=by
 have C:=hid (YX w g B A n c ls s hn hs h hg ha);clear hn hs h ha;go_enter func278,ntmps278;go_wp2_with fail;refine C.out.mono ?_;rintro e w1 ⟨rfl,rfl⟩;go_wp2_with fail;go_ret;exact⟨rfl,rfl⟩
def BH(ls:List Nat):List Bool:=(List.range (8*ls.length)).map fun i=>decide (ls.getD (i / 8) 0 / 2 ^ (7-i % 8) % 2=1)
theorem Fi(ls:List Nat):(BH ls).length=8*ls.length:=by simp[BH]
theorem Md(h:i<8*ls.length):bit (BH ls) i=ls.getD (i / 8) 0 / 2 ^ (7-i % 8) % 2:=by unfold bit BH;rw[Aq,Co,List.getElem?_range h];simp only[Option.map_some,Option.getD_some,decide_eq_true_eq];split<;>omega
theorem VG(bs:List Bool)(i:Nat):bit (BH (bytesOf bs)) i=bit bs i:=by
 by_cases h:i<8*(bytesOf bs).length
 ·rw[Md h];rw[bytesOf_length]at h;have e:(bytesOf bs).getD (i / 8) 0=Dk bs (i / 8):=by unfold bytesOf;rw[Aq,Co,List.getElem?_range nj];rfl
  rw[e];obtain⟨q,r,hr,hi⟩:∃q r,r<8/\i=8*q+r:=⟨i / 8,i % 8,nj,nj⟩;have e1:i / 8=q:=nj
  have e2:i % 8=r:=nj
  rw[e1,e2];subst hi;unfold Dk;have h0:=EW bs (8*q);have h1:=EW bs (8*q+1);have h2:=EW bs (8*q+2);have h3:=EW bs (8*q+3);have h4:=EW bs (8*q+4);have h5:=EW bs (8*q+5);have h6:=EW bs (8*q+6);have h7:=EW bs (8*q+7);have:r=0∨r=1∨r=2∨r=3∨r=4∨r=5∨r=6∨r=7:=nj
  rcases this with rfl|rfl|rfl|rfl|rfl|rfl|rfl|rfl<;>(simp only[Nat.add_zero,Nat.sub_zero,Nat.reduceSub,Nat.reducePow];omega)
 ·rw[Gh (by rw[Fi];omega),Gh (by rw[bytesOf_length]at h;omega)]
theorem QE{a b:List Bool}(h:∀i,bit a i=bit b i)(i:Nat):∀m,AK a i m=AK b i m
 |0=>rfl
 |m+1=>by rw[AK,AK,QE h i m,h]
def head(bs:List Bool)(at_:Nat):Nat:=AK bs at_ 15
def there(bs:List Bool)(at_:Nat):Nat:=min 15 (bs.length-at_)
theorem L7(h:okB ls=true)(hx:ls[s]? =some x)(h0:x≠0){bs:List Bool}(pre post:List Bool)(hb:∀i,bit bs i=bit (pre++word ls s++post) i)(hl:pre.length+x<=bs.length):
 EP ls (head bs pre.length) (there bs pre.length)=((s:Int),0,x):=by
 obtain⟨_,j,_⟩:=Ab0 h;have y:=j x (Bp hx);refine Sh h hx (Ik.2 ⟨x,hx,h0,by unfold there;omega,?_⟩);have e:ls.getD s 0=x:=by simp[List.getD_eq_getElem?_getD,hx]
 unfold head;have h1:=R6 bs pre.length x (15-x);rw[show x+(15-x)=15 by omega]at h1;rw[h1,QE hb];unfold word;rw[e];have h2:=NS (code ls s) x (OL h hx h0) (pre++msb (code ls s) x x++post) pre post rfl x (Ak _);rw[h2,G0,Nat.pow_zero,Nat.div_one]
theorem jT{s:Int}(h:FG ls s≠0):∃m x:Nat,s=m/\ls[m]? =some x/\x≠0:=by
 unfold FG at h;split at h
 ·exact absurd rfl h
 ·rename_i h0;refine⟨s.toNat,ls.getD s.toNat 0,nj,?_,h⟩;rcases Nat.lt_or_ge s.toNat ls.length with h1|h1
  ·simp[List.getD_eq_getElem?_getD,h1]
  ·rw[Aq,FN h1]at h;simp at h
theorem a1k{p:Prop}(h:p:=by
  obtain⟨h0,h1⟩:=h;refine⟨h0,?_⟩;rcases h1 with ⟨hv,_⟩|⟨g,y,cur,hv,_,hh,_,_,_,i⟩
  ·injection hv with e1 e2 e3;exact .inl ⟨e1,e2,e3⟩
  ·injection hv with e1 e2 e3;refine .inr ⟨⟨g,0,none⟩,e1,fun j u hu=> ?_⟩;rw[Gj,Ca,Blk.cell hh];rw[<-i,GD]at hu;split at hu
   ·simpa using hu
   ·cases hu):p:=h
theorem So{base:Nat}{xs:List Value}(h:w.ownsRow base e 1 (.slice A n c) n xs):Src w A n c 1 xs:=by
 exact a1k
theorem YM:(prog.info? 3).map (fun i=>(i.zero,i.size,i.bytes))=some (some (.int .i64 0),1,8):=my
theorem i7(w:World)(base:Nat)(A:Option Addr)(n c:Nat)(xs:List Value)(Q:n<=3000000)(h:w.ownsRow base 3 1 (.slice A n c) n xs)(j:∀u∈xs,u.oneCell'=true):
 Calls prog 62 #[.slice A n c] w fun e w'=>∃v,e= .returned v/\w'.ownsRow w 3 1 v n xs/\Below w w w':=by
 obtain⟨j0,G,L,J,M⟩:=info_parts YM;have U:=fun(w:World) (a:Option Addr) (n c:Nat)=>Lib.run_eql_slice_nil (P:=prog) w 37 3 a n c 0 0 underlying37;cases A with
 |none=>obtain⟨rfl,rfl⟩:=(Et h).1 rfl;have hl:xs= []:=Gn mg;subst hl;clear h j;go_enter func62,ntmps62;go_wp2_with fail;go_ret;exact⟨_,rfl,AI _ _ _ _,Ae _ _⟩
 |some ad=>
  have z:(w.alloc (.cells #[] 3)).ownsRow w 3 1 (.slice (some ⟨w,0,none⟩) 0 0) 0 []:=World.ownsRow_made w #[] 0 (Ak _) sS rfl;have y:Src (w.alloc (.cells #[] 3)) (some ad) n c 1 xs:=So (h.alloc _);clear h;go_enter func62,ntmps62;go_wp2_with(at_builtin;refine iZ rfl (.tmp 5) (.tmp 6) 37 rfl w 3 j0 _ 1 8 underlying37 G L J M rfl ip _ _ _ nm z _ n _ xs nm y j sS nj rX ?_;intro v3 w3 i E N;obtain⟨A3,c3,rfl⟩:=bZ i);go_ret;refine⟨_,rfl,?_,?_⟩
  ·simpa using i
  ·exact(aZ (o:= .cells #[] 3) (Ae _ _)).grown E rX (fun k hk=>by simp[Value.ownBlock]at hk;omega)
theorem Yr:(prog.info? 9).map (fun i=>(i.zero,i.size,i.bytes))=some (some (.string ⟨#[]⟩),1,16):=my
theorem iG(w:World)(base:Nat)(A:Option Addr)(n c:Nat)(xs:List Value)(Q:n<=3000000)(h:w.ownsRow base 9 1 (.slice A n c) n xs)(j:∀u∈xs,u.oneCell'=true):
 Calls prog 67 #[.slice A n c] w fun e w'=>∃v,e= .returned v/\w'.ownsRow w 9 1 v n xs/\Below w w w':=by
 obtain⟨j0,G,L,J,M⟩:=info_parts Yr;have U:=fun(w:World) (a:Option Addr) (n c:Nat)=>Lib.run_eql_slice_nil (P:=prog) w 50 9 a n c 0 0 underlying50;cases A with
 |none=>obtain⟨rfl,rfl⟩:=(Et h).1 rfl;have hl:xs= []:=Gn mg;subst hl;clear h j;go_enter func67,ntmps67;go_wp2_with fail;go_ret;exact⟨_,rfl,AI _ _ _ _,Ae _ _⟩
 |some ad=>
  have z:(w.alloc (.cells #[] 9)).ownsRow w 9 1 (.slice (some ⟨w,0,none⟩) 0 0) 0 []:=World.ownsRow_made w #[] 0 (Ak _) sS rfl;have y:Src (w.alloc (.cells #[] 9)) (some ad) n c 1 xs:=So (h.alloc _);clear h;go_enter func67,ntmps67;go_wp2_with(at_builtin;refine iZ rfl (.tmp 5) (.tmp 6) 50 rfl w 9 j0 _ 1 16 underlying50 G L J M rfl ip _ _ _ nm z _ n _ xs nm y j sS nj rX ?_;intro v3 w3 i E N;obtain⟨A3,c3,rfl⟩:=bZ i);go_ret;refine⟨_,rfl,?_,?_⟩
  ·simpa using i
  ·exact(aZ (o:= .cells #[] 9) (Ae _ _)).grown E rX (fun k hk=>by simp[Value.ownBlock]at hk;omega)
end Go.Proofs.YtfgdoknipbpfhaaGreatDoor
