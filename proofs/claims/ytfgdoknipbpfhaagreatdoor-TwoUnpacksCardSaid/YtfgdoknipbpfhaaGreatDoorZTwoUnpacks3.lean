/- The walk of the libr -/
import Derived.Test.YtfgdoknipbpfhaaGreatDoorZTwoUnpacks2
import Derived.WalkSpells
import Derived.Laws.BitsAllLaws
import Derived.Deep.RegionHeld3
namespace Go.Proofs.YtfgdoknipbpfhaaGreatDoor
open Go.Proofs.Tryz
open Go.Lib (hid)
set_option maxHeartbeats 1000000
set_option maxRecDepth 100000
variable{w w':World}{B c i m n s x:Nat}{A:Option Addr}{k:IntKind}{ls:List Nat}{e:TypeId}
namespace Canon
open Go.RowKit Mem
def cZ(k:IntKind)(ls:List Nat):List Value:=ls.map fun x=> .int k (x:Nat)
theorem RN(k:IntKind)(ls:List Nat):(cZ k ls).length=ls.length:=nk
theorem Cn(k:IntKind)(ls:List Nat):∀u∈cZ k ls,u.oneCell'=true:=by intro u hu;obtain⟨x,_,rfl⟩:=ET.1 hu;rfl
theorem Ig(h:Row w B A n 1 (jZ k ls))(hn:ls.length=n)(i:A=none->n=0/\c=0):Src w A n c 1 (cZ k ls):=by
 refine⟨by rw[RN,hn,EF],?_⟩;cases A with
 |none=>exact .inl ⟨rfl,i rfl⟩
 |some ad=>
  refine .inr ⟨ad,rfl,fun j u hu=> ?_⟩;obtain⟨x,hx,rfl⟩:=B0 .. ▸ hu |> Option.map_eq_some_iff.1;have hj:j<n:=by have:=(Ch.1 hx).1;omega
  obtain⟨b,z,y,e,hb,hy,hc⟩:=CD h hn hj;injection e with e;subst e;rw[hx]at hy;injection hy with hy;subst hy;rw[add_none];exact hc
theorem Ct:(prog.info? 5).map (fun i=>(i.zero,i.size,i.bytes))=some (some (.int .u8 0),1,1):=kG
theorem Hp(w:World)(A:Option Addr)(n c:Nat)(ls:List Nat)(hn:ls.length=n)(Y:n<=100000)(y:A=none->n=0/\c=0)(ha:Row w w A n 1 (jZ .u8 ls)):
 Calls prog 100 #[.slice A n c] w fun e w'=>∃v,e= .returned v/\w'.ownsRow w 5 1 v n (cZ .u8 ls)/\aO w w':=by
 obtain⟨j0,L,N,Q,M⟩:=info_parts Ct;have HN:=hid hn;have aa:=fun(w:World) (a:Option Addr) (n c:Nat)=>Lib.run_eql_slice_nil (P:=prog) w 28 5 a n c 0 0 underlying28;cases A with
 |none=>obtain⟨rfl,rfl⟩:=y rfl;have hl:ls= []:=FK hn;subst hl;clear hn y;go_enter func100,ntmps100;go_wp2_with fail;go_ret;exact⟨_,rfl,Aq _ _ _ _,Ag _ _⟩
 |some ad=>
  have i:=Ig (c:=c) ha hn y;have G:(w.alloc (.cells #[] 5)).ownsRow w 5 1 (.slice (some ⟨w,0,none⟩) 0 0) 0 []:=World.ownsRow_made w #[] 0 (Ai _) nI rfl
  have E:Src (w.alloc (.cells #[] 5)) (some ad) n c 1 (cZ .u8 ls):=by
   refine⟨i.1, .inr ⟨ad,rfl,fun j u hu=> ?_⟩⟩;rcases i.2 with ⟨h,_⟩|⟨Z,h1,h2⟩
   ·cases h
   ·injection h1 with h1;subst h1;have hc:=h2 j u hu;exact(World.cell?_of_block (Ca w _ _ (World.block_lt_of_cell? _ _ hc))).trans hc
  clear hn y i;go_enter func100,ntmps100;go_wp2_with(at_builtin;refine gZ rfl (.tmp 5) (.tmp 6) 28 rfl w 5 j0 _ 1 1 underlying28 L N Q M rfl iX _ _ _ kU G _ n _ (cZ .u8 ls) kU E (Cn _ _) nI kR mY ?_;intro v3 w3 z J U;obtain⟨A3,c3,rfl⟩:=aZ z);go_ret;refine⟨_,rfl,?_,?_⟩
  ·simpa using z
  ·exact(bZ (o:= .cells #[] 5) (Ag _ _)).grown J mY (fun k hk=>by simp[Value.ownBlock]at hk;omega)
end Canon
namespace Crc
def sh(x:Nat):Nat:=if x % 2=1 then(x / 2) ^^^ 3988292384 else x / 2
def shN:Nat->Nat->Nat
 |0,x=>x
 |n+1,x=>shN n (sh x)
theorem PD(m:Nat):∀ (n x:Nat),shN (n+m) x=shN m (shN n x)
 |0,x=>by rw[BF];rfl
 |n+1,x=>by rw[show n+1+m=(n+m)+1 by omega,shN,PD m n];rfl
theorem Uf(x y:Nat):(x ^^^ y) % 2=(x % 2+y % 2) % 2:=by have h:=Nat.testBit_xor x y 0;simp only[Nat.testBit_zero]at h;have hx:=Mg x;have hy:=Mg y;have hz:=Mg (x ^^^ y);rcases hx with hx|hx<;>rcases hy with hy|hy<;>rcases hz with hz|hz<;>simp_all
theorem TZ(x y:Nat):(x ^^^ y) / 2=(x / 2) ^^^ (y / 2):=by
 apply Nat.eq_of_testBit_eq
 intro i;rw[Nat.testBit_xor];simp only[Nat.testBit_div_two,Nat.testBit_xor]
theorem VE(x y:Nat):sh (x ^^^ y)=sh x ^^^ sh y:=by
 unfold sh;rw[Uf,TZ];have hx:=Mg x;have hy:=Mg y;generalize x / 2=a;generalize y / 2=b;have e:a ^^^ b=(a ^^^ 3988292384) ^^^ (b ^^^ 3988292384):=by rw[Nat.xor_assoc,<-Nat.xor_assoc 3988292384,Nat.xor_comm 3988292384 b,Nat.xor_assoc b,Nat.xor_self,Nat.xor_zero]
 rcases hx with hx|hx<;>rcases hy with hy|hy<;>simp only[hx,hy]
 ·simp
 ·simp[Nat.xor_assoc]
 ·simp only[if_true,Nat.reduceEqDiff,if_false];rw[Nat.xor_assoc,Nat.xor_comm b,<-Nat.xor_assoc]
 ·simp only[Nat.reduceAdd,Nat.reduceMod,if_true,Nat.reduceEqDiff,if_false];exact e
theorem Pn:∀ (n x y:Nat),shN n (x ^^^ y)=shN n x ^^^ shN n y
 |0,_,_=>rfl
 |n+1,x,y=>by rw[shN,VE,Pn n];rfl
theorem V9(x:Nat):sh (2*x)=x:=by unfold sh;rw[Aa kR];omega
theorem O7:∀ (n x:Nat),shN n (2 ^ n*x)=x
 |0,x=>by simp[shN]
 |n+1,x=>by rw[shN,ER,show 2 ^ n*2*x=2*(2 ^ n*x) by rw[Nat.mul_comm (2 ^ n) 2,Nat.mul_assoc],V9,O7 n]
theorem Rl(h:x<4294967296):sh x<4294967296:=by
 unfold sh;split
 ·exact Nat.xor_lt_two_pow (n:=32) kR iX
 ·omega
theorem Jj:∀ (n:Nat) {x:Nat},x<4294967296->shN n x<4294967296
 |0,_,h=>h
 |n+1,_,h=>Jj n (Rl h)
def tab:List Nat:= [0x00000000,0x1DB71064,0x3B6E20C8,0x26D930AC,0x76DC4190,0x6B6B51F4,0x4DB26158,0x5005713C,0xEDB88320,0xF00F9344,0xD6D6A3E8,0xCB61B38C,0x9B64C2B0,0x86D3D2D4,0xA00AE278,0xBDBDF21C]
theorem MU:∀i,i<16->tab.getD i 0=shN 4 i:=iX
theorem Ul(n a b:Nat)(hb:b<2 ^ n):2 ^ n*a+b=2 ^ n*a ^^^ b:=by
 rw[Nat.two_pow_add_eq_or_of_lt hb];apply Nat.eq_of_testBit_eq;intro i;rw[Nat.testBit_or,Nat.testBit_xor,Nat.testBit_two_pow_mul];by_cases hi:n<=i
 ·rw[Nat.testBit_lt_two_pow (Em hb (BQ kR hi))];simp
 ·simp[hi]
theorem four(x:Nat):shN 4 x=(x / 16) ^^^ tab.getD (x % 16) 0:=by
 have e:x=2 ^ 4*(x / 16) ^^^ (x % 16):=by rw[<-Ul 4 _ _ kR];omega
 rw[MU _ kR]
 conv=>lhs;rw[e,Pn,O7]
def Ll(x c:Nat):Nat:=shN 8 (x ^^^ c)
theorem T6(x c:Nat):Ll x c=shN 4 (shN 4 (x ^^^ c)):=PD 4 4 _
def run(x:Nat)(bs:List Nat):Nat:=bs.foldl Ll x
theorem TO(x:Nat)(a b:List Nat):run x (a++b)=run (run x a) b:=by unfold run;rw[List.foldl_append]
theorem TH(hx:x<4294967296)(hc:c<256):Ll x c<4294967296:=Jj 8 (Nat.xor_lt_two_pow (n:=32) hx kR)
theorem Vq{bs:List Nat}:∀ {x:Nat},x<4294967296->(∀c∈bs,c<256)->run x bs<4294967296:=by
 induction bs with
 |nil=>intro x hx _;exact hx
 |cons c l ih=>intro x hx h;exact ih (TH hx (h c mY)) (fun d hd=>h d (by simp[hd]))
def BE(bs:List Nat):Nat:=4294967295-run 4294967295 bs
def more(s:Nat)(bs:List Nat):Nat:=4294967295-run (4294967295-s) bs
def Cb(s:Nat):List Nat:= [s % 256,s / 256 % 256,s / 65536 % 256,s / 16777216 % 256]
theorem flip(h:x<4294967296):4294967295-x=4294967295 ^^^ x:=by
 apply Nat.eq_of_testBit_eq
 intro i;have e:4294967295-x=2 ^ 32-(x+1):=kR
 rw[e,Nat.testBit_two_pow_sub_succ kR,Nat.testBit_xor,show 4294967295=2 ^ 32-1 by rfl,Nat.testBit_two_pow_sub_one];by_cases hi:i<32
 ·simp[hi]
 ·rw[Nat.testBit_lt_two_pow (x:=x) (Em h (by have:2 ^ 32<=2 ^ i:=BQ kR kR;exact this))];simp[hi]
theorem N3(s:Nat):∀c∈Cb s,c<256:=by intro c hc;simp only[Cb,List.mem_cons,List.not_mem_nil,or_false]at hc;rcases hc with rfl|rfl|rfl|rfl<;>omega
end Crc
namespace Crc
open Go.RowKit Mem Own Canon
def TabAt(w:World):Prop:=∀i,i<16->w.cell? ⟨0,i,none⟩=some (.int .u32 (tab.getD i 0:Nat))
theorem TabAt.lt(h:TabAt w):0<w.heap.size:=World.block_lt_of_cell? _ _ (h 0 kR)
theorem TabAt.below(h:TabAt w)(hb:Below B w w')(hB:0<B):TabAt w':=fun i hi=>(hb.cell (p:=⟨_,i,none⟩) hB).trans (h i hi)
theorem TabAt.step(h:TabAt w)(hb:aO w w'):TabAt w':=h.below hb h.lt
theorem aB(w:World)(P:Option Addr)(pc:Nat)(A:Option Addr)(n c:Nat)(ls:List Nat)(s:Nat)(hs:s<4294967296)(hn:ls.length=n)(hN:n<=9223372036854775807)(h8:∀x∈ls,x<=255)(ht:TabAt w)
 (hp:Row w w P 1 1 (fun _ _=> .slice A n c))(ha:Row w w A n 1 (jZ .u8 ls)):
 Calls prog 168 #[.int .u32 s, .slice P 1 pc] w fun e w'=>e= .returned (.int .u32 (more s ls:Nat))/\w'=w:=by
 obtain⟨pb,po,rfl,ar,al⟩:=hp kR;have p0:=al 0 0 kR kR;simp only[Nat.zero_mul,Nat.add_zero]at p0;obtain⟨x0,af⟩:=iS (4294967295-s);have e0:bits .xor .u32 IntKind.u32.max (s:Int)=(x0:Int):=by have h:=u32_xor_nat 4294967295 s kR hs;rw[show IntKind.u32.max=((4294967295:Nat):Int) by decide,h,af,flip hs]
 have ah:x0<4294967296:=kR
 have am:=hid af;have HA:=hid ha;have HT:=hid ht;have HN:=hid hn;have H8:=hid h8;clear ha ht hn h8 al hp af;unfold more;rw[<-am.out];go_enter func168,ntmps168;go_wp2_with fail;go_loopw [5,14] (fun xv i wx=>∃ (z:Bool) (x:Nat),xv= .int .u32 x/\i= .int .i64 (if z then 1 else 0)/\Hid (x=if z then run x0 ls else x0)/\x<4294967296/\wx=w) (fun _ i _=>1-(intOf i).toNat)
 case atStart=>exact⟨false,x0,rfl,rfl,rfl,ah,rfl⟩
 case round=>
  obtain⟨z,x,rfl,rfl,hx,E,rfl⟩:=hrel;cases z
  ·obtain rfl:x=x0:=hx.out;clear hx;go_wp2_with fail;go_loopw [5,20] (fun xv i wx=>∃ (k x1:Nat),k<=n/\xv= .int .u32 x1/\i= .int .i64 k/\Hid (x1=run x (ls.take k))/\x1<4294967296/\wx=wr) (fun _ i _=>n-(intOf i).toNat)
   case atStart=>exact⟨0,x,kR,rfl,rfl,rfl,E,rfl⟩
   case round=>
    obtain⟨k,x1,hk,rfl,rfl,Y,j,rfl⟩:=hrel;by_cases ak:k<n
    ·obtain⟨b,aq,y,rfl,hb,hy,hc⟩:=CD HA.out HN.out ak;have an:k<ls.length:=(by rw[HN.out];exact ak);have au:y<=255:=H8.out y (BP hy);have Z:run x (ls.take (k+1))=Ll x1 y:=(by rw[EG,hy,Option.toList,TO,<-Y.out];rfl);rw[T6]at Z;obtain⟨x2,U⟩:=iS (x1 ^^^ y);have J:x2<4294967296:=(by rw[U];exact Nat.xor_lt_two_pow (n:=32) j kR);have e1:bits .xor .u32 (x1:Int) (y:Int)=(x2:Int):=(by rw[u32_xor_nat x1 y j kR,U]);obtain⟨j2,ag⟩:=iS (x2 % 16);have e2:bits .and .u32 (x2:Int) 15=(j2:Int):=(by rw[show(15:Int)=((15:Nat):Int) from rfl,u32_and_nat x2 15 J kR,ag,show 15=2 ^ 4-1 from rfl,Mh]);obtain⟨x3,Q⟩:=iS (shN 4 x2);have M:x3<4294967296:=(by rw[Q];exact Jj 4 J);have L:j2<16:=kR;have t2:=HT.out j2 L;have ab:tab.getD j2 0<4294967296:=(by rw[MU j2 L];exact Jj 4 kR);obtain⟨d2,aj⟩:=iS (x2 / 16);have e3:bits .xor .u32 (d2:Int) (tab.getD j2 0:Nat)=(x3:Int):=(by rw[u32_xor_nat d2 _ kR ab,Q,four,aj,ag]);obtain⟨j3,ae⟩:=iS (x3 % 16);have e4:bits .and .u32 (x3:Int) 15=(j3:Int):=(by rw[show(15:Int)=((15:Nat):Int) from rfl,u32_and_nat x3 15 M kR,ae,show 15=2 ^ 4-1 from rfl,Mh]);obtain⟨x4,N⟩:=iS (shN 4 x3);have ac:x4<4294967296:=(by rw[N];exact Jj 4 M);have G:j3<16:=kR;have t3:=HT.out j3 G;have aa:tab.getD j3 0<4294967296:=(by rw[MU j3 G];exact Jj 4 kR);obtain⟨d3,ai⟩:=iS (x3 / 16);have e5:bits .xor .u32 (d3:Int) (tab.getD j3 0:Nat)=(x4:Int):=(by rw[u32_xor_nat d3 _ kR aa,N,four,ai,ae]);have q2:((x2:Int) / 16)=(d2:Int):=kR;have q3:((x3:Int) / 16)=(d3:Int):=kR;have s1:IntKind.u32.wrap (y:Int)=(y:Int):=lX;have s2:IntKind.u32.wrap (d2:Int)=(d2:Int):=lX;have s3:IntKind.u32.wrap (d3:Int)=(d3:Int):=lX;rw[<-U,<-Q,<-N]at Z;generalize tab.getD j2 0=u2 at *;generalize tab.getD j3 0=u3 at *;have HY:=hid Z;have y0:(0:Int)<=(k:Int):=kR;have y1:(k:Int)<(n:Int):=kR;have y2:(0:Int)<=(j2:Int):=kR;have y3:(j2:Int)<16:=kR;have y4:(0:Int)<=(j3:Int):=kR;have y5:(j3:Int)<16:=kR;clear Z U Q N ag ae aj ai hy an Y e0;go_wp2_with fail;go_roundw
     case measure=>exact jw
     case rel=>go_light;exact⟨k+1,x4,kR,i7,jx,HY.out.symm,ac,i7⟩
    ·obtain rfl:k=n:=by omega
     have h:=Y.out;rw[BR lQ]at h;have HR:=hid h;clear h Y e0;go_wp2_with fail;go_roundw
     case measure=>go_light;simp[intOf]
     case rel=>go_light;exact⟨true,x1,i7,i7,HR.out,j,i7⟩
  ·have h:=hx.out;simp only[if_true]at h;have hr:run x0 ls<4294967296:=(by rw[<-h];exact E);have e9:bits .xor .u32 IntKind.u32.max (x:Int)=((4294967295-x:Nat):Int):=(by have h:=u32_xor_nat 4294967295 x kR E;rw[show IntKind.u32.max=((4294967295:Nat):Int) by decide,h,flip E]);have HR:=hid h;clear h hx hr e0;go_wp2_with fail;go_ret;exact⟨Ko (by rw[<-HR.out]),rfl⟩
theorem sum_any(w:World)(A:Option Addr)(n c:Nat)(ls:List Nat)(hn:ls.length=n)(hN:n<=9223372036854775807)(h8:∀x∈ls,x<=255)(ht:TabAt w)(ha:Row w w A n 1 (jZ .u8 ls)):
 Calls prog 102 #[.slice A n c] w fun e w'=>e= .returned (.int .u32 (BE ls:Nat))/\aO w w':=by
 have hb:aO w (w.alloc (.cells #[.slice A n c] 28)):=bZ (Ag _ _)
 have D:=aB (w.alloc (.cells #[.slice A n c] 28)) (some ⟨w,0,none⟩) 1 A n c ls 0 kR hn hN h8 (ht.step hb)
  (Row.of_blk (Blk.made _ _ _) mY (fun i j hi hj=>match i,j,hi,hj with|0,0,_,_=>rfl)) ((ha.below hb).mono hb.size)
 have D:=hid D;clear ha ht h8 hn;go_enter func102,ntmps102;go_wp2_with fail;refine D.out.mono ?_;rintro e w1 ⟨rfl,rfl⟩;go_wp2_with fail;go_ret;exact⟨rfl,hb⟩
theorem Ry(s:Nat):(Cb s).length=4:=rfl
def L7(s:Nat)(w:World)(e:Ending)(w':World):Prop:=
 ∃g,e= .returned (.slice (some ⟨g,0,none⟩) 4 4)/\w.heap.size<=g/\Blk w' g 5 (cZ .u8 (Cb s)).toArray/\aO w w'
theorem Qz(w:World)(s:Nat)(hs:s<4294967296):Calls prog 101 #[.int .u32 s] w (L7 s w):=by
 obtain⟨d1,j⟩:=iS (s / 256);obtain⟨d2,h⟩:=iS (s / 65536);obtain⟨d3,G⟩:=iS (s / 16777216);obtain⟨b0,z⟩:=iS (s % 256);obtain⟨b1,i⟩:=iS (d1 % 256);obtain⟨b2,y⟩:=iS (d2 % 256);obtain⟨b3,E⟩:=iS (d3 % 256);have ht:Cb s= [b0,b1,b2,b3]:=by rw[z,i,y,E,j,h,G];rfl
 have q1:((s:Int) / 256)=(d1:Int):=kR
 have q2:((s:Int) / 65536)=(d2:Int):=kR
 have q3:((s:Int) / 16777216)=(d3:Int):=kR
 have s1:IntKind.u32.wrap (d1:Int)=(d1:Int):=lX
 have s2:IntKind.u32.wrap (d2:Int)=(d2:Int):=lX
 have s3:IntKind.u32.wrap (d3:Int)=(d3:Int):=lX
 have r0:IntKind.u8.wrap (s:Int)=(b0:Int):=lJ
 have r1:IntKind.u8.wrap (d1:Int)=(b1:Int):=lJ
 have r2:IntKind.u8.wrap (d2:Int)=(b2:Int):=lJ
 have r3:IntKind.u8.wrap (d3:Int)=(b3:Int):=lJ
 unfold L7;rw[ht];clear j h G z i y E ht hs;go_enter func101,ntmps101;go_wp2_with fail;go_ret;exact⟨w.heap.size,rfl,Ai _,Blk.made _ _ _,bZ (Ag _ _)⟩
def Fz(ls:List Nat)(w:World)(e:Ending)(w':World):Prop:=
 ∃v,e= .returned v/\w'.ownsRow w 5 1 v (ls.length+4) (cZ .u8 (ls++Cb (BE ls)))/\aO w w'
theorem Rm(k:IntKind)(a b:List Nat):cZ k (a++b)=cZ k a++cZ k b:=nk
theorem Kb(w:World)(A:Option Addr)(n c:Nat)(ls:List Nat)(hn:ls.length=n)(ab:n<=100000)(E:A=none->n=0/\c=0)(h8:∀x∈ls,x<=255)(ht:TabAt w)(ha:Row w w A n 1 (jZ .u8 ls)):
 Calls prog 49 #[.slice A n c] w (Fz ls w):=by
 obtain⟨j0,ac,ah,ai,ae⟩:=info_parts Ct;have D1:=hid (Hp w A n c ls hn ab E ha);have D2:=fun(wx:World) (h:aO w wx)=>sum_any wx A n c ls hn kR h8 (ht.step h) ((ha.below h).mono h.size);have D2:=hid D2;have ag:BE ls<4294967296:=by unfold BE;omega
 have D3:=hid (fun wx=>Qz wx (BE ls) ag);have aa:=Ry (BE ls);unfold Fz;rw[Rm,hn];unfold L7 at D3;generalize BE ls=s at *;have HT:=hid aa;clear hn E h8 ht ha aa;go_enter func49,ntmps49;go_wp2_with fail;refine D1.out.mono ?_;rintro e w1 ⟨v1,rfl,i,U⟩;obtain⟨A1,c1,rfl⟩:=aZ i;have J:=hid i;have j:=hid U;clear i U D1;go_wp2_with fail;refine(D2.out _ j.out).mono ?_;rintro e w2 ⟨rfl,N⟩;have M:=hid (dZ J.out (fun x hx=>N.block x (Ae J.out x hx).2));have G:Hid (aO w w2):=j.out.trans (N.mono j.out.size);clear N j J D2;go_wp2_with fail;refine(D3.out _).mono ?_;rintro e w3 ⟨g,rfl,hg,z,Q⟩;have Y:=hid (dZ M.out (fun x hx=>Q.block x (Ae M.out x hx).2));have Z:Hid (aO w w3):=G.out.trans (Q.mono G.out.size);have ak:=Z.out.size;have HK:=hid z;clear Q G M D3 z;go_wp2_with(at_builtin;refine gZ rfl (.tmp 4) (.tmp 7) 28 rfl w 5 j0 _ 1 1 underlying28 ac ah ai ae rfl iX _ _ _ kU Y.out _ 4 4 (cZ .u8 (Cb s)) kU (by simpa using Src.of_blk HK.out 4 4 1 (by rw[List.size_toArray,RN,HT.out])) (Cn _ _) nI kR kR ?_;intro v4 w4 L af aj);go_ret;exact⟨_,rfl,L,Z.out.grown af kR (fun y hy=>(Ae Y.out y hy).1)⟩
end Crc
namespace Crc
open Go.RowKit Mem Own Canon
theorem ZU{f:Nat->Nat->Value}(h:Row w B A n s f)(hm:m<=n):Row w B A m s f:=fun h0=>by obtain⟨b,y,e,hb,hc⟩:=h kR;exact⟨b,y,e,hb,fun i j hi hj=>hc i j kR hj⟩
theorem Vw(h:i<m):(ls.take m).getD i 0=ls.getD i 0:=by rw[Ar,List.getElem?_take_of_lt h,<-Ar]
theorem Dd(h:Row w B A n 1 (jZ k ls))(hm:m<=n):Row w B A m 1 (jZ k (ls.take m)):=
 (ZU h hm).congr fun i j hi _=>by unfold jZ;rw[Vw hi]
theorem Cv(h:Row w B A n 1 (jZ k ls))(hm:m<=n)(hc:n<=c):Row w B (xZ A m c 1) (n-m) 1 (jZ k (ls.drop m)):=
 h.cut m (n-m) kR hc fun i j _ _=>by unfold jZ;rw[Ar,Ar,I7]
theorem CX{P:Program}{t:TypeId}(ht:P.underlying t=some (.slice e))(hs:∀w,(sizeOf e).run P w= .ok s w)(A:Option Addr)(len i:Nat)(kh:IntKind)(h:Int)(m:Nat)(hh:h=m)(hm:m<=i)(hA:∀a,A=some a->a.add 0=a)(w:World):
 (Instr.slice t (.slice A len i) none (some (.int kh h)) none).run P w= .ok (.slice A m i) w:=by
 subst hh;have he:P.elem t=e:=nj
 rw[run_slice_h w t A len i mh kh (m:Int) kR kR,he,hs];cases A with
 |none=>simp[Result.andThen,sliced]
 |some a=>simp[Result.andThen,sliced,hA a rfl]
theorem MQ{la lb:List Nat}{k:Nat}(h:k<la.length)(h':k<lb.length):decide (la.drop k=lb.drop k)=(decide (la.getD k 0=lb.getD k 0)&&decide (la.drop (k+1)=lb.drop (k+1))):=by rw[Ar,Ar,AE h,AE h',GD,GD,I9,CV,decide_eq_true_eq,decide_eq_true_eq,decide_eq_true_eq,CU h,CU h',List.cons.injEq]
theorem Vj(w:World)(A B:Option Addr)(n c d:Nat)(la lb:List Nat)(hn:la.length=n)(hm:lb.length=n)(hN:n<=9223372036854775807)(ha:Row w w A n 1 (jZ .u8 la))(hb:Row w w B n 1 (jZ .u8 lb)):
 Calls prog 117 #[.slice A n c, .slice B n d] w fun e w'=>e= .returned (.bool (decide (la=lb)))/\aO w w':=by
 have HA:=hid ha;have HB:=hid hb;have HN:=hid hn;have HM:=hid hm;clear ha hb hn hm;go_enter func117,ntmps117;go_wp2_with fail;go_loopw [13] (fun i wx=>∃k:Nat,k<=n/\i= .int .i64 k/\Hid (decide (la.drop k=lb.drop k)=decide (la=lb))/\Hid (aO w wx)) (fun i _=>n-(intOf i).toNat)
 case atStart=>exact⟨0,kR,rfl,rfl,Ag _ _⟩
 case round=>
  obtain⟨k,hk,rfl,hE,h⟩:=hrel;by_cases j:k<n
  ·obtain⟨b1,o1,x1,rfl,G,E,J⟩:=CD (HA.out.below h.out) HN.out j;obtain⟨b2,o2,x2,rfl,L,z,M⟩:=CD (HB.out.below h.out) HM.out j;have he:=hE.out;rw[MQ (by rw[HN.out];exact j) (by rw[HM.out];exact j),Ar,Ar,E,z]at he;simp only[Option.getD_some]at he;have y0:(0:Int)<=(k:Int):=kR;have y1:(k:Int)<(n:Int):=kR;clear E z hE;by_cases y:x1=x2
   ·subst y;rw[Aw rfl,Bool.true_and]at he;have HE:=hid he;have e1:((x1:Int) != (x1:Int))=false:=mY;clear he;go_wp2_with fail;go_quiet (fail);go_wp2_with fail;go_roundw
    case measure=>exact jw
    case rel=>go_light;exact⟨k+1,kR,jx,HE.out,below_drewN h.out _⟩
   ·rw[Az y,IB]at he;have HE:=hid he;have e1:((x1:Int) != (x2:Int))=true:=ni;clear he y;go_wp2_with fail;go_quiet (fail);go_wp2_with fail;go_ret;exact⟨El HE.out,below_drewN h.out _⟩
  ·obtain rfl:k=n:=by omega
   have he:=hE.out;rw[Cw lQ,Cw lP]at he;have HE:=hid he;clear he hE;go_wp2_with fail;go_ret;exact⟨El kV,h.out⟩
def Bx(ls:List Nat):Int:=if ls.length<4 then 1 else if ls.drop (ls.length-4)=Cb (BE (ls.take (ls.length-4)))then 0 else 5
def vZ(ls:List Nat):List Nat:=if Bx ls=0 then ls.take (ls.length-4)else []
def EL(ls:List Nat)(w:World)(e:Ending)(w':World):Prop:=
 ∃v,e= .returned (.tuple #[v, .int .i64 (Bx ls)])/\w'.ownsRow w 5 1 v (vZ ls).length (cZ .u8 (vZ ls))/\aO w w'
theorem JG(w:World)(A:Option Addr)(n c:Nat)(ls:List Nat)(hn:ls.length=n)(ah:n<=100000)(hc:n<=c)(h8:∀x∈ls,x<=255)(ht:TabAt w)(ha:Row w w A n 1 (jZ .u8 ls)):
 Calls prog 60 #[.slice A n c] w (EL ls w):=by
 unfold EL;by_cases h4:n<4
 ·have hE:Bx ls=1:=by unfold Bx;rw[Ab kR]
  have hO:vZ ls= []:=by unfold vZ;rw[hE];rfl
  rw[hE,hO];have s1:IntKind.i64.wrap ((n:Int)-4)=(n:Int)-4:=lB
  have g1:=iQ ((n:Int)-4<0)
  clear ha ht h8 hn hE hO;go_enter func60,ntmps60;go_wp2_with fail;go_ret2;exact⟨_,rfl,Aq _ _ _ _,Ag _ _⟩
 ·obtain⟨m,rfl⟩:∃m,n=m+4:=⟨n-4,kR⟩;obtain⟨ab,ao,rfl,ag,aa⟩:=ha kR;have L:ls.length-4=m:=by omega
  have s1:IntKind.i64.wrap ((((m+4:Nat)):Int)-4)=(m:Int):=lD
  have g1:=iR ((m:Int)<0)
  have hb:=Dd ha (show m<=m+4 by omega);have hd:=Cv ha (show m<=m+4 by omega) hc;rw[show m+4-m=4 by omega]at hd;have G:(ls.take m).length=m:=ln
  have U:(ls.drop m).length=4:=lk
  have Q:∀x∈ls.take m,x<=255:=fun x hx=>h8 x (BZ hx);have ac:BE (ls.take m)<4294967296:=by unfold BE;omega
  have k1:=fun wx=>EM (P:=prog) (t:=28) (s:=1) underlying28 (fun _=>by kernel_rfl) (some ⟨ab,ao,none⟩) (m+4) c .i64 (m:Int) m rfl kR wx;have k2:=fun wx=>CX (P:=prog) (t:=28) (s:=1) underlying28 (fun _=>by kernel_rfl) (some ⟨ab,ao,none⟩) (m+4) c .i64 (m:Int) m rfl kR (fun a ha=>by injection ha with ha;subst ha;exact Fp ab ao 0) wx;rw[show m+4-m=4 by omega]at k1;have D1:=hid (fun(wx:World) (h:aO w wx)=>sum_any wx (some ⟨ab,ao,none⟩) m c (ls.take m) G kR Q (ht.step h) ((hb.below h).mono h.size));have D2:=hid (fun wx=>Qz wx (BE (ls.take m)) ac);have Y:=Ry (BE (ls.take m));unfold L7 at D2;have hE:Bx ls=if ls.drop m=Cb (BE (ls.take m))then 0 else 5:=by unfold Bx;rw[Aa kR,L]
  have hO:vZ ls=if Bx ls=0 then ls.take m else []:=by unfold vZ;rw[L]
  generalize xZ (some ⟨ab,ao,none⟩) m c 1=A1 at *
  have D3:Hid (∀ (wx:World) g,aO w wx->Blk wx g 5 (cZ .u8 (Cb (BE (ls.take m)))).toArray->Calls prog 117 #[.slice A1 4 (c-m), .slice (some ⟨g,0,none⟩) 4 4] wx fun e w'=>e= .returned (.bool (decide (ls.drop m=Cb (BE (ls.take m)))))/\aO wx w'):=by
   intro wx g h hg;refine Vj wx A1 (some ⟨g,0,none⟩) 4 (c-m) 4 _ _ U Y kR ((hd.below h).mono h.size) (Row.of_blk hg hg.lt fun i j hi hj=> ?_);obtain rfl:j=0:=kR
   rw[EF,CT];simp[cZ,jZ,List.getD_eq_getElem?_getD,List.getElem?_eq_getElem (show i<(Cb (BE (ls.take m))).length by omega)]
  have D4:=hid (fun(wx:World) (h:aO w wx)=>Hp wx (some ⟨ab,ao,none⟩) m c (ls.take m) G kR (fun h=>by cases h) ((hb.below h).mono h.size));generalize BE (ls.take m)=s at *;clear ha aa hb hd h8 ht Q h4 L hn;have ae:=hid G;clear G U Y;by_cases y:ls.drop m=Cb s
  ·rw[Ab y]at hE;rw[hE,Ab rfl]at hO;rw[hE,hO,ae.out];rw[Aw y]at D3;clear y hE hO;go_enter func60,ntmps60;go_upto_region 4 with fail;go_region_held3 (fun _=>True) (trivial) (first|(go_at_call 102;(with_reducible refine(D1.out _ nJ).mono ?_);rintro e w1 ⟨rfl,J⟩)|(go_at_call 101;(with_reducible refine(D2.out _).mono ?_);rintro e w2 ⟨g,rfl,hg,E,M⟩)|(go_at_call 117;(with_reducible refine(D3.out _ _ nJ iV).mono ?_);rintro e w3 ⟨rfl,N⟩));have z:aO w w3:=nJ;have HB:=hid z;clear J M N z E D1 D2 D3;go_wp2_with fail;refine(D4.out _ HB.out).mono ?_;rintro e w4 ⟨v,rfl,Z,af⟩;go_wp2_with fail;go_ret2;exact⟨_,rfl,iZ Z HB.out.size,HB.out.trans (af.mono HB.out.size)⟩
  ·rw[Aa y]at hE;rw[hE,Aa kR]at hO;rw[hE,hO];rw[Az y]at D3;clear y hE hO;go_enter func60,ntmps60;go_upto_region 4 with fail;go_region_held3 (fun _=>True) (trivial) (first|(go_at_call 102;(with_reducible refine(D1.out _ nJ).mono ?_);rintro e w1 ⟨rfl,J⟩)|(go_at_call 101;(with_reducible refine(D2.out _).mono ?_);rintro e w2 ⟨g,rfl,hg,E,M⟩)|(go_at_call 117;(with_reducible refine(D3.out _ _ nJ iV).mono ?_);rintro e w3 ⟨rfl,N⟩));have z:aO w w3:=nJ;have HB:=hid z;clear J M N z E D1 D2 D3;go_wp2_with fail;go_ret2;exact⟨_,rfl,Aq _ _ _ _,HB.out⟩
end Crc
namespace Crc
open Go.RowKit Mem Own Canon
theorem ZE(w:World)(x:Nat)(hx:x<4294967296):Calls prog 257 #[.int .u32 x] w fun e w'=>e= .returned (.int .u32 (sh x:Nat))/\w'=w:=by
 have e0:bits .xor .u32 ((x / 2:Nat):Int) 3988292384=(((x / 2) ^^^ 3988292384:Nat):Int):=by have h:=u32_xor_nat (x / 2) 3988292384 kR kR;exact h
 have c0:((x:Int) / 2)=((x / 2:Nat):Int):=kR
 by_cases h2:x % 2=1
 ·have g1:((x:Int) % 2==1)=true:=by rw[beq_iff_eq];omega
  have hs:sh x=(x / 2) ^^^ 3988292384:=Ab h2;rw[hs];rw[<-c0]at e0;generalize (x / 2) ^^^ 3988292384=y at *;clear hs c0 h2;go_enter func257,ntmps257;go_wp2_with fail;go_ret;exact⟨rfl,rfl⟩
 ·have g1:((x:Int) % 2==1)=false:=by rw[Df];omega
  have hs:sh x=x / 2:=Aa h2;rw[hs];clear hs e0 h2 c0;go_enter func257,ntmps257;go_wp2_with fail;go_ret;exact⟨mY,rfl⟩
theorem U3(w:World)(s:Nat)(hs:s<4294967296)(A:Option Addr)(n c:Nat)(ls:List Nat)(hn:ls.length=n)(af:n<=1000000)(h8:∀x∈ls,x<=255)(ha:Row w w A n 1 (jZ .u8 ls)):
 Calls prog 209 #[.int .u32 s, .slice A n c] w fun e w'=>e= .returned (.int .u32 (more s ls:Nat))/\aO w w':=by
 have e0:IntKind.u32.wrap (4294967295-(s:Int))=((4294967295-s:Nat):Int):=lX
 obtain⟨R,hR⟩:=iS (run (4294967295-s) ls);have ah:R<4294967296:=by rw[hR];exact Vq kR (fun c hc=>by have:=h8 c hc;omega)
 have hm:more s ls=4294967295-R:=by unfold more;rw[hR]
 rw[hm];have G:Hid (run (4294967295-s) (ls.drop 0)=R):=hR.symm
 have HA:Hid (∀i,i<n->∃b j,A=some ⟨b,j,none⟩/\w.cell? ⟨b,j+i,none⟩=some (.int .u8 (ls.getD i 0:Nat))/\b<w.heap.size/\ls.getD i 0<=255/\ls.drop i=ls.getD i 0 :: ls.drop (i+1)):=fun i hi=>by
  obtain⟨b,j,rfl,N,hc⟩:=ha kR;have:=hc i 0 hi kR;simp only[jZ,Nat.mul_one,Nat.add_zero]at this;have hg:ls.getD i 0=ls[i]:=by rw[Ar,AE kR];rfl
  exact⟨b,j,rfl,this,N,by rw[hg];exact h8 _ (Hi kR),by rw[hg];exact CU kR⟩
 have HE:Hid (ls.drop n= []):=List.drop_eq_nil_of_le kR;have B:=fun(w:World) (x:Nat) (hx:x<4294967296)=>ZE w x hx;have HB:=hid B;obtain⟨x0,L⟩:=iS (4294967295-s);have U:x0<4294967296:=kR
 rw[<-L]at e0 G;clear hR hm h8 ha hn B L;go_enter func209,ntmps209;go_wp2_with fail;go_loopw [5,6] (fun u v wr=>∃x i:Nat,u= .int .u32 x/\v= .int .i64 i/\x<4294967296/\i<=n/\Hid (run x (ls.drop i)=R)/\wr=w) (fun _ v _=>n-(intOf v).toNat)
 case atStart=>exact⟨x0,0,rfl,rfl,U,kR,G.out,rfl⟩
 case round=>
  obtain⟨x,i,rfl,rfl,hx,hi,HR,rfl⟩:=hrel;clear G;by_cases ae:i<n
  ·obtain⟨b,j,rfl,hc,N,ag,hd⟩:=HA.out i ae;have g1:=iQ ((i:Int)<n);have aa:=iQ (i<n);have y0:(0:Int)<=(i:Int):=kR;have y1:(i:Int)<(n:Int):=kR;have s2:IntKind.i64.wrap ((i:Int)+1)=((i+1:Nat):Int):=lD;have M:Hid (run (shN 8 (x ^^^ ls.getD i 0)) (ls.drop (i+1))=R):=(by have h:=HR.out;rw[hd]at h;exact h);generalize ls.getD i 0=y at *;have e1:bits .xor .u32 (x:Int) (y:Int)=((x ^^^ y:Nat):Int):=u32_xor_nat x y hx kR;have e2:IntKind.u32.wrap (y:Int)=(y:Int):=lX;have ab:x ^^^ y<4294967296:=Nat.xor_lt_two_pow (n:=32) hx kR;generalize x ^^^ y=z at *;clear hd HR;obtain⟨w0,rfl⟩:=iS wr;go_wp2_with fail;go_loopw [5,7] (fun u v wr=>∃a k:Nat,u= .int .u32 a/\v= .int .i64 k/\a<4294967296/\k<=8/\Hid (shN (8-k) a=shN 8 z)/\wr=w0) (fun _ v _=>8-(intOf v).toNat)
   case atStart=>exact⟨z,0,rfl,rfl,ab,kR,by exact(rfl:shN 8 z=shN 8 z),rfl⟩
   case round=>
    obtain⟨a,k,rfl,rfl,J,hk,HS,rfl⟩:=hrel;by_cases h8:k<8
    ·have g2:=iQ ((k:Int)<8);have ai:=iQ (k<8);have s3:IntKind.i64.wrap ((k:Int)+1)=((k+1:Nat):Int):=lD;have E:Hid (shN (8-(k+1)) (sh a)=shN 8 z):=(by have h:=HS.out;rw[show 8-k=(8-(k+1))+1 by omega]at h;exact h);have Z:=Rl J;have Q:=hid (HB.out wr a J);generalize sh a=a' at *;clear HS;go_wp2_with fail;refine Q.out.mono ?_;rintro e w9 ⟨rfl,rfl⟩;clear Q;go_wp2_with fail;go_roundw
     case measure=>exact jw
     case rel=>go_light;exact⟨a',k+1,rfl,rfl,Z,kR,E.out,trivial⟩
    ·obtain rfl:k=8:=by omega
     have E:Hid (a=shN 8 z):=HS.out;have Y:Hid (run a (ls.drop (i+1))=R):=(by rw[E.out];exact M.out);clear HS M E;go_wp2_with fail;go_roundw
     case measure=>exact jw
     case rel=>go_light;exact⟨a,i+1,rfl,rfl,J,kR,Y.out,trivial⟩
  ·obtain rfl:i=n:=by omega
   have ac:Hid (x=R):=(by have h:=HR.out;rw[HE.out]at h;exact h);have e1:IntKind.u32.wrap (4294967295-(x:Int))=((4294967295-x:Nat):Int):=lX;have g1:=iR ((i:Int)<i);have aa:=iR (i<i);go_wp2_with fail;go_ret;exact⟨by rw[<-ac.out];first|rfl|simp,Ag _ _⟩
theorem Zm(w:World)(A:Option Addr)(n c:Nat)(ls:List Nat)(hn:ls.length=n)(h:n<=1000000)(h8:∀x∈ls,x<=255)(ha:Row w w A n 1 (jZ .u8 ls)):
 Calls prog 140 #[.slice A n c] w fun e w'=>e= .returned (.int .u32 (BE ls:Nat))/\aO w w':=by
 have D:=hid (U3 w 0 kR A n c ls hn h h8 ha);have hm:more 0 ls=BE ls:=rfl;rw[hm]at D;clear hn h8 ha hm;go_enter func140,ntmps140;go_wp2_with fail;refine D.out.mono ?_;rintro e w1 ⟨rfl,hb⟩;go_wp2_with fail;go_ret;exact⟨rfl,hb⟩
def GY(s:Nat):Nat->List Nat
 |0=> []
 |k+1=>s % 256 :: GY (s / 256) k
theorem aJ:GY s 4=Cb s:=by simp[GY,Cb,Nat.div_div_eq_div_mul]
theorem Kz(w:World)(A:Option Addr)(n c:Nat)(ls:List Nat)(hn:ls.length=n)(ah:n<=1000000)(z:A=none->n=0/\c=0)(h8:∀x∈ls,x<=255)(ha:Row w w A n 1 (jZ .u8 ls)):
 Calls prog 78 #[.slice A n c] w (Fz ls w):=by
 obtain⟨j0,Z,ae,af,ac⟩:=info_parts Ct;have D:=hid (Zm w A n c ls hn ah h8 ha);have ai:BE ls<4294967296:=by unfold BE;omega
 unfold Fz;rw[<-aJ];generalize BE ls=s at *;have E:Hid (∀wx,aO w wx->Src wx A n c 1 (cZ .u8 ls)):=fun wx hb=>Ig ((ha.below hb).mono hb.size) hn z;have HN:=hid hn;obtain⟨R,hR⟩:=iS (ls++GY s 4);have Q:Hid (ls++GY s 4=R):=hR.symm;have an:Hid (R.length=n+4):=by rw[hR,Aj,hn];exact rfl
 rw[<-hR];clear hR;rw[hn];clear hn z h8 ha;go_enter func78,ntmps78;go_wp2_with fail;refine D.out.mono ?_;rintro e w1 ⟨rfl,hb⟩;have M:=hid hb;clear D hb;have ag:=M.out.size
 have L:Hid ((w1.alloc (.cells #[] 5)).ownsRow w 5 1 (.slice (some ⟨w1,0,none⟩) 0 0) 0 []):=
  ⟨rfl, .inr ⟨w1.heap.size,0,#[],rfl,ag,heap_alloc_new w1 _,Ai _,nI,rfl,rfl⟩⟩
 have G:Hid (aO w (w1.alloc (.cells #[] 5))):=bZ M.out;have ab:=hid (E.out _ G.out);clear M E;go_wp2_with(at_builtin;refine gZ rfl (.tmp 8) (.tmp 9) 28 rfl w 5 j0 _ 1 1 underlying28 Z ae af ac rfl iX _ _ _ kU L.out _ _ _ _ kU ab.out (Cn _ _) nI kR ni ?_;intro v4 w4 i U aa);have Y:Hid (w4.ownsRow w 5 1 v4 (n+0) (cZ .u8 ls)):=by rw[show n+0=0+n by omega];exact i
 have N:Hid (aO w w4):=G.out.grown U ni (fun y hy=>(Ae L.out y hy).1);clear i U aa L G ab;go_loopw [3,4,5] (fun u v t wr=>∃ (a k:Nat) (done:List Nat),u= .int .u32 a/\t= .int .i64 k/\a<4294967296/\k<=4/\Hid (done++GY a (4-k)=R)/\Hid (wr.ownsRow w 5 1 v (n+k) (cZ .u8 done))/\Hid (aO w wr)) (fun _ _ t _=>4-(intOf t).toNat)
 case atStart=>exact⟨s,0,ls,rfl,rfl,ai,kR,Q.out,Y.out,N.out⟩
 case round=>
  obtain⟨a,k,done,rfl,rfl,aq,hk,HR,HO,HB⟩:=hrel;clear Y N Q;have hz:=HB.out.size;by_cases h4:k<4
  ·have g2:=iQ ((k:Int)<4);have ar:=iQ (k<4);have s3:IntKind.i64.wrap ((k:Int)+1)=((k+1:Nat):Int):=lD;have c1:IntKind.u8.wrap ((a:Int) % 256)=((a % 256:Nat):Int):=lJ;have j:Hid ((done++ [a % 256])++GY (a / 256) (4-(k+1))=R):=(by have h:=HR.out;rw[show 4-k=(4-(k+1))+1 by omega,GY]at h;rw[zY];exact h);obtain⟨b,hb⟩:=iS (a % 256);rw[<-hb]at c1 j;clear hb HR;go_wp2_with(at_builtin;refine gZ rfl (.tmp 15) (.tmp 19) 28 rfl w 5 j0 _ 1 1 underlying28 Z ae af ac rfl iX _ _ _ kU (HO.out.alloc _) _ 1 1 [.int .u8 (b:Nat)] kU (Src.of_blk (g:=wr.heap.size) (Blk.made _ _ _) 1 1 1 rfl) kw nI kR ni ?_;intro v5 w5 J aj am);have ak:Hid (w5.ownsRow w 5 1 v5 (n+(k+1)) (cZ .u8 (done++ [b]))):=(by rw[show cZ .u8 (done++ [b])=cZ .u8 done++ [.int .u8 (b:Nat)] by simp[cZ]];exact J);have al:Hid (aO w w5):=(bZ HB.out).grown aj ni (fun y hy=>(Ae HO.out y hy).1);exact⟨⟨a / 256,k+1,done++ [b],AI _ kR,rfl,kR,kR,j.out,ak.out,al.out⟩,nw⟩
  ·obtain rfl:k=4:=by omega
   have j:Hid (done=R):=(by have h:=HR.out;rw[show 4-4=0 from rfl,GY,Fl]at h;exact h);clear HR;go_wp2_with fail;go_ret;exact⟨_,rfl,by rw[<-j.out];exact HO.out,HB.out⟩
end Crc
namespace Huff
open Go.RowKit Mem Canon
def Hn(ls:List Nat)(s:Int):Nat:=if s<0 then 0 else ls.getD s.toNat 0
theorem Z1(w:World)(g B:Nat)(A:Option Addr)(n c:Nat)(ls:List Nat)(s:Int)(hn:ls.length=n)(hs: -9223372036854775808<=s/\s<=9223372036854775807)
 (h:∀x∈ls,x<=255)(hg:w.cell? ⟨g,0,none⟩=some (.slice A n c))(ha:Row w B A n 1 (jZ .u8 ls)):
 Calls prog 319 #[.pointer (some ⟨g,0,none⟩),s] w fun e w'=>e= .returned (.int .i64 (Hn ls s:Nat))/\w=w':=by
 obtain⟨z,y⟩:=hs;by_cases h0:s<0
 ·have e0:Hn ls s=0:=by unfold Hn;rw[Ab h0]
  rw[e0];clear h hn;go_enter func319,ntmps319;go_wp2_with fail;go_ret;exact⟨rfl,rfl⟩
 ·obtain⟨m,rfl⟩:=JV (show 0<=s by omega);by_cases h1:m<n
  ·obtain⟨b,j,x,rfl,hb,hx,hc⟩:=CD ha hn h1;have i:x<=255:=h x (BP hx);have e0:Hn ls (m:Int)=x:=(by unfold Hn;rw[Aa h0];simp[List.getD_eq_getElem?_getD,hx]);rw[e0];have x0:(0:Int)<=(m:Int):=kR;have x1:(m:Int)<(n:Int):=kR;clear h hn hx;go_enter func319,ntmps319;go_wp2_with fail;go_ret;exact⟨jx,rfl⟩
  ·have e0:Hn ls (m:Int)=0:=(by unfold Hn;rw[Aa h0];simp[List.getD_eq_getElem?_getD,List.getElem?_eq_none (show ls.length<=m by omega)]);rw[e0];have x1:¬(m:Int)<(n:Int):=kR;clear h hn;go_enter func319,ntmps319;go_wp2_with fail;go_ret;exact⟨rfl,rfl⟩
theorem len_any(w:World)(g B:Nat)(A:Option Addr)(n c:Nat)(ls:List Nat)(s:Int)(hn:ls.length=n)(hs: -9223372036854775808<=s/\s<=9223372036854775807)
 (h:∀x∈ls,x<=255)(hg:w.cell? ⟨g,0,none⟩=some (.slice A n c))(ha:Row w B A n 1 (jZ .u8 ls)):
 Calls prog 278 #[.pointer (some ⟨g,0,none⟩),s] w fun e w'=>e= .returned (.int .i64 (Hn ls s:Nat))/\w=w':=by
 have C:=hid (Z1 w g B A n c ls s hn hs h hg ha);clear hn hs h ha;go_enter func278,ntmps278;go_wp2_with fail;refine C.out.mono ?_;rintro e w1 ⟨rfl,rfl⟩;go_wp2_with fail;go_ret;exact⟨rfl,rfl⟩
end Huff
namespace Huff
open Canon
def Bg(ls:List Nat):List Bool:=(List.range (8*ls.length)).map fun i=>decide (ls.getD (i / 8) 0 / 2 ^ (7-i % 8) % 2=1)
theorem Dy(ls:List Nat):(Bg ls).length=8*ls.length:=by simp[Bg]
theorem Pt(h:i<8*ls.length):bit (Bg ls) i=ls.getD (i / 8) 0 / 2 ^ (7-i % 8) % 2:=by unfold bit Bg;rw[Ar,B0,List.getElem?_range h];simp only[Option.map_some,Option.getD_some,decide_eq_true_eq];split<;>omega
def head(bs:List Bool)(at_:Nat):Nat:=yZ bs at_ 15
def there(bs:List Bool)(at_:Nat):Nat:=min 15 (bs.length-at_)
end Huff
namespace Canon
open Go.RowKit Mem Own
theorem OV{base:Nat}{xs:List Value}(h:w.ownsRow base e 1 (.slice A n c) n xs):Src w A n c 1 xs:=by
 obtain⟨h0,h1⟩:=h;refine⟨h0,?_⟩;rcases h1 with ⟨hv,_⟩|⟨g,y,cur,hv,_,hh,_,_,_,i⟩
 ·injection hv with e1 e2 e3;exact .inl ⟨e1,e2,e3⟩
 ·injection hv with e1 e2 e3;refine .inr ⟨⟨g,0,none⟩,e1,fun j u hu=> ?_⟩;rw[Fp,BF,Blk.cell hh];rw[<-i,Iv]at hu;split at hu
  ·simpa using hu
  ·cases hu
theorem Va:(prog.info? 3).map (fun i=>(i.zero,i.size,i.bytes))=some (some (.int .i64 0),1,8):=kG
theorem UM(w:World)(base:Nat)(A:Option Addr)(n c:Nat)(xs:List Value)(Q:n<=3000000)(h:w.ownsRow base 3 1 (.slice A n c) n xs)(j:∀u∈xs,u.oneCell'=true):
 Calls prog 62 #[.slice A n c] w fun e w'=>∃v,e= .returned v/\w'.ownsRow w 3 1 v n xs/\aO w w':=by
 obtain⟨j0,G,L,M,J⟩:=info_parts Va;have U:=fun(w:World) (a:Option Addr) (n c:Nat)=>Lib.run_eql_slice_nil (P:=prog) w 37 3 a n c 0 0 underlying37;cases A with
 |none=>obtain⟨rfl,rfl⟩:=(Da h).1 rfl;have hl:xs= []:=FK ko;subst hl;clear h j;go_enter func62,ntmps62;go_wp2_with fail;go_ret;exact⟨_,rfl,Aq _ _ _ _,Ag _ _⟩
 |some ad=>
  have z:(w.alloc (.cells #[] 3)).ownsRow w 3 1 (.slice (some ⟨w,0,none⟩) 0 0) 0 []:=World.ownsRow_made w #[] 0 (Ai _) nI rfl;have y:Src (w.alloc (.cells #[] 3)) (some ad) n c 1 xs:=OV (h.alloc _);clear h;go_enter func62,ntmps62;go_wp2_with(at_builtin;refine gZ rfl (.tmp 5) (.tmp 6) 37 rfl w 3 j0 _ 1 8 underlying37 G L M J rfl iX _ _ _ kU z _ n _ xs kU y j nI kR mY ?_;intro v3 w3 i E N;obtain⟨A3,c3,rfl⟩:=aZ i);go_ret;refine⟨_,rfl,?_,?_⟩
  ·simpa using i
  ·exact(bZ (o:= .cells #[] 3) (Ag _ _)).grown E mY (fun k hk=>by simp[Value.ownBlock]at hk;omega)
theorem UT:(prog.info? 9).map (fun i=>(i.zero,i.size,i.bytes))=some (some (.string ⟨#[]⟩),1,16):=kG
theorem Ux(w:World)(base:Nat)(A:Option Addr)(n c:Nat)(xs:List Value)(Q:n<=3000000)(h:w.ownsRow base 9 1 (.slice A n c) n xs)(j:∀u∈xs,u.oneCell'=true):
 Calls prog 67 #[.slice A n c] w fun e w'=>∃v,e= .returned v/\w'.ownsRow w 9 1 v n xs/\aO w w':=by
 obtain⟨j0,G,L,M,J⟩:=info_parts UT;have U:=fun(w:World) (a:Option Addr) (n c:Nat)=>Lib.run_eql_slice_nil (P:=prog) w 50 9 a n c 0 0 underlying50;cases A with
 |none=>obtain⟨rfl,rfl⟩:=(Da h).1 rfl;have hl:xs= []:=FK ko;subst hl;clear h j;go_enter func67,ntmps67;go_wp2_with fail;go_ret;exact⟨_,rfl,Aq _ _ _ _,Ag _ _⟩
 |some ad=>
  have z:(w.alloc (.cells #[] 9)).ownsRow w 9 1 (.slice (some ⟨w,0,none⟩) 0 0) 0 []:=World.ownsRow_made w #[] 0 (Ai _) nI rfl;have y:Src (w.alloc (.cells #[] 9)) (some ad) n c 1 xs:=OV (h.alloc _);clear h;go_enter func67,ntmps67;go_wp2_with(at_builtin;refine gZ rfl (.tmp 5) (.tmp 6) 50 rfl w 9 j0 _ 1 16 underlying50 G L M J rfl iX _ _ _ kU z _ n _ xs kU y j nI kR mY ?_;intro v3 w3 i E N;obtain⟨A3,c3,rfl⟩:=aZ i);go_ret;refine⟨_,rfl,?_,?_⟩
  ·simpa using i
  ·exact(bZ (o:= .cells #[] 9) (Ag _ _)).grown E mY (fun k hk=>by simp[Value.ownBlock]at hk;omega)
end Canon
end Go.Proofs.YtfgdoknipbpfhaaGreatDoor
