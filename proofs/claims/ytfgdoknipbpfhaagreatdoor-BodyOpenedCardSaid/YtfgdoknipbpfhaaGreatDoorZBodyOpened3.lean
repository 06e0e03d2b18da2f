/- The walk of the libr -/
import Derived.Test.YtfgdoknipbpfhaaGreatDoorZBodyOpened2
import Derived.WalkSpells
import Derived.Laws.BitsAllLaws
import Derived.Deep.RegionHeld3
namespace Go.Proofs.YtfgdoknipbpfhaaGreatDoor
open Go.Proofs.Tryz
open Go.Lib (hid)
set_option maxHeartbeats 1000000
set_option maxRecDepth 100000
variable{w w':World}{B c i m n s x:Nat}{A:Option Addr}{k:IntKind}{ls:List Nat}{e:TypeId}
namespace Canon
open Go.RowKit Mem
def cZ(k:IntKind)(ls:List Nat):List Value:=ls.map fun x=> .int k (x:Nat)
theorem Sg(k:IntKind)(ls:List Nat):(cZ k ls).length=ls.length:=pT
theorem Cq(k:IntKind)(ls:List Nat):∀u∈cZ k ls,u.oneCell'=true:=by intro u hu;obtain⟨x,_,rfl⟩:=Cc.1 hu;rfl
theorem KK(h:Row w B A n 1 (jZ k ls))(hn:ls.length=n)(i:A=none->n=0/\c=0):Src w A n c 1 (cZ k ls):=by
 refine⟨by rw[Sg,hn,CG],?_⟩;cases A with
 |none=>exact .inl ⟨rfl,i rfl⟩
 |some ad=>
  refine .inr ⟨ad,rfl,fun j u hu=> ?_⟩;obtain⟨x,hx,rfl⟩:=BE .. ▸ hu |> Option.map_eq_some_iff.1;have hj:j<n:=by have:=(CE.1 hx).1;omega
  obtain⟨b,z,y,e,hb,hy,hc⟩:=CF h hn hj;injection e with e;subst e;rw[hx]at hy;injection hy with hy;subst hy;rw[add_none];exact hc
theorem Eo:(prog.info? 5).map (fun i=>(i.zero,i.size,i.bytes))=some (some (.int .u8 0),1,1):=mr
theorem If(w:World)(A:Option Addr)(n c:Nat)(ls:List Nat)(hn:ls.length=n)(ab:n<=100000)(y:A=none->n=0/\c=0)(ha:Row w w A n 1 (jZ .u8 ls)):
 Calls prog 100 #[.slice A n c] w fun e w'=>∃v,e= .returned v/\w'.ownsRow w 5 1 v n (cZ .u8 ls)/\Below w w w':=by
 obtain⟨j0,J,N,Q,U⟩:=info_parts Eo;have HN:=hid hn;have Z:=fun(w:World) (a:Option Addr) (n c:Nat)=>Lib.run_eql_slice_nil (P:=prog) w 28 5 a n c 0 0 underlying28;cases A with
 |none=>obtain⟨rfl,rfl⟩:=y rfl;have hl:ls= []:=Gr hn;subst hl;clear hn y;go_enter func100,ntmps100;go_wp2_with fail;go_ret;exact⟨_,rfl,AK _ _ _ _,Ag _ _⟩
 |some ad=>
  have i:=KK (c:=c) ha hn y;have E:(w.alloc (.cells #[] 5)).ownsRow w 5 1 (.slice (some ⟨w,0,none⟩) 0 0) 0 []:=World.ownsRow_made w #[] 0 (Aq _) qg rfl
  have G:Src (w.alloc (.cells #[] 5)) (some ad) n c 1 (cZ .u8 ls):=by
   refine⟨i.1, .inr ⟨ad,rfl,fun j u hu=> ?_⟩⟩;rcases i.2 with ⟨h,_⟩|⟨aa,h1,h2⟩
   ·cases h
   ·injection h1 with h1;subst h1;have hc:=h2 j u hu;exact(World.cell?_of_block (Ed w _ _ (World.block_lt_of_cell? _ _ hc))).trans hc
  clear hn y i;go_enter func100,ntmps100;go_wp2_with(at_builtin;refine iZ rfl (.tmp 5) (.tmp 6) 28 rfl w 5 j0 _ 1 1 underlying28 J N Q U rfl ip _ _ _ nc E _ n _ (cZ .u8 ls) nc G (Cq _ _) qg mz pI ?_;intro v3 w3 z M Y;obtain⟨A3,c3,rfl⟩:=bZ z);go_ret;refine⟨_,rfl,?_,?_⟩
  ·simpa using z
  ·exact(aZ (o:= .cells #[] 5) (Ag _ _)).grown M pI (fun k hk=>by simp[Value.ownBlock]at hk;omega)
end Canon
namespace Crc
def sh(x:Nat):Nat:=if x % 2=1 then(x / 2) ^^^ 3988292384 else x / 2
def shN:Nat->Nat->Nat
 |0,x=>x
 |n+1,x=>shN n (sh x)
theorem Ty(m:Nat):∀ (n x:Nat),shN (n+m) x=shN m (shN n x)
 |0,x=>by rw[Ck];rfl
 |n+1,x=>by rw[show n+1+m=(n+m)+1 by omega,shN,Ty m n];rfl
theorem WG(x y:Nat):(x ^^^ y) % 2=(x % 2+y % 2) % 2:=by have h:=Nat.testBit_xor x y 0;simp only[Nat.testBit_zero]at h;have hx:=LB x;have hy:=LB y;have hz:=LB (x ^^^ y);rcases hx with hx|hx<;>rcases hy with hy|hy<;>rcases hz with hz|hz<;>simp_all
theorem Wl(x y:Nat):(x ^^^ y) / 2=(x / 2) ^^^ (y / 2):=by
 apply Nat.eq_of_testBit_eq
 intro i;rw[Nat.testBit_xor];simp only[Nat.testBit_div_two,Nat.testBit_xor]
theorem fJ(x y:Nat):sh (x ^^^ y)=sh x ^^^ sh y:=by
 unfold sh;rw[WG,Wl];have hx:=LB x;have hy:=LB y;generalize x / 2=a;generalize y / 2=b;have e:a ^^^ b=(a ^^^ 3988292384) ^^^ (b ^^^ 3988292384):=by rw[Nat.xor_assoc,<-Nat.xor_assoc 3988292384,Nat.xor_comm 3988292384 b,Nat.xor_assoc b,Nat.xor_self,Nat.xor_zero]
 rcases hx with hx|hx<;>rcases hy with hy|hy<;>simp only[hx,hy]
 ·simp
 ·simp[Nat.xor_assoc]
 ·simp only[if_true,Nat.reduceEqDiff,if_false];rw[Nat.xor_assoc,Nat.xor_comm b,<-Nat.xor_assoc]
 ·simp only[Nat.reduceAdd,Nat.reduceMod,if_true,Nat.reduceEqDiff,if_false];exact e
theorem Tm:∀ (n x y:Nat),shN n (x ^^^ y)=shN n x ^^^ shN n y
 |0,_,_=>rfl
 |n+1,x,y=>by rw[shN,fJ,Tm n];rfl
theorem aW(x:Nat):sh (2*x)=x:=by unfold sh;rw[Ab mz];omega
theorem SY:∀ (n x:Nat),shN n (2 ^ n*x)=x
 |0,x=>by simp[shN]
 |n+1,x=>by rw[shN,Fl,show 2 ^ n*2*x=2*(2 ^ n*x) by rw[Nat.mul_comm (2 ^ n) 2,Nat.mul_assoc],aW,SY n]
theorem VU(h:x<4294967296):sh x<4294967296:=by
 unfold sh;split
 ·exact Nat.xor_lt_two_pow (n:=32) mz ip
 ·omega
theorem JZ:∀ (n:Nat) {x:Nat},x<4294967296->shN n x<4294967296
 |0,_,h=>h
 |n+1,_,h=>JZ n (VU h)
def tab:List Nat:= [0x00000000,0x1DB71064,0x3B6E20C8,0x26D930AC,0x76DC4190,0x6B6B51F4,0x4DB26158,0x5005713C,0xEDB88320,0xF00F9344,0xD6D6A3E8,0xCB61B38C,0x9B64C2B0,0x86D3D2D4,0xA00AE278,0xBDBDF21C]
theorem NS:∀i,i<16->tab.getD i 0=shN 4 i:=ip
theorem iW(n a b:Nat)(hb:b<2 ^ n):2 ^ n*a+b=2 ^ n*a ^^^ b:=by
 rw[Nat.two_pow_add_eq_or_of_lt hb];apply Nat.eq_of_testBit_eq;intro i;rw[Nat.testBit_or,Nat.testBit_xor,Nat.testBit_two_pow_mul];by_cases hi:n<=i
 ·rw[Nat.testBit_lt_two_pow (Et hb (Cl mz hi))];simp
 ·simp[hi]
theorem four(x:Nat):shN 4 x=(x / 16) ^^^ tab.getD (x % 16) 0:=by
 have e:x=2 ^ 4*(x / 16) ^^^ (x % 16):=by rw[<-iW 4 _ _ mz];omega
 rw[NS _ mz]
 conv=>lhs;rw[e,Tm,SY]
def MS(x c:Nat):Nat:=shN 8 (x ^^^ c)
theorem iC(x c:Nat):MS x c=shN 4 (shN 4 (x ^^^ c)):=Ty 4 4 _
def run(x:Nat)(bs:List Nat):Nat:=bs.foldl MS x
theorem gA(x:Nat)(a b:List Nat):run x (a++b)=run (run x a) b:=by unfold run;rw[List.foldl_append]
theorem nQ(hx:x<4294967296)(hc:c<256):MS x c<4294967296:=JZ 8 (Nat.xor_lt_two_pow (n:=32) hx mz)
theorem d6{bs:List Nat}:∀ {x:Nat},x<4294967296->(∀c∈bs,c<256)->run x bs<4294967296:=by
 induction bs with
 |nil=>intro x hx _;exact hx
 |cons c l ih=>intro x hx h;exact ih (nQ hx (h c pI)) (fun d hd=>h d (by simp[hd]))
def Cn(bs:List Nat):Nat:=4294967295-run 4294967295 bs
def more(s:Nat)(bs:List Nat):Nat:=4294967295-run (4294967295-s) bs
def CR(s:Nat):List Nat:= [s % 256,s / 256 % 256,s / 65536 % 256,s / 16777216 % 256]
theorem flip(h:x<4294967296):4294967295-x=4294967295 ^^^ x:=by
 apply Nat.eq_of_testBit_eq
 intro i;have e:4294967295-x=2 ^ 32-(x+1):=mz
 rw[e,Nat.testBit_two_pow_sub_succ mz,Nat.testBit_xor,show 4294967295=2 ^ 32-1 by rfl,Nat.testBit_two_pow_sub_one];by_cases hi:i<32
 ·simp[hi]
 ·rw[Nat.testBit_lt_two_pow (x:=x) (Et h (by have:2 ^ 32<=2 ^ i:=Cl mz mz;exact this))];simp[hi]
theorem UG(s:Nat):∀c∈CR s,c<256:=by intro c hc;simp only[CR,List.mem_cons,List.not_mem_nil,or_false]at hc;rcases hc with rfl|rfl|rfl|rfl<;>omega
end Crc
namespace Crc
open Go.RowKit Mem Own Canon
def TabAt(w:World):Prop:=∀i,i<16->w.cell? ⟨0,i,none⟩=some (.int .u32 (tab.getD i 0:Nat))
theorem TabAt.lt(h:TabAt w):0<w.heap.size:=World.block_lt_of_cell? _ _ (h 0 mz)
theorem TabAt.below(h:TabAt w)(hb:Below B w w')(hB:0<B):TabAt w':=fun i hi=>(hb.cell (p:=⟨_,i,none⟩) hB).trans (h i hi)
theorem TabAt.step(h:TabAt w)(hb:Below w w w'):TabAt w':=h.below hb h.lt
theorem mS(w:World)(P:Option Addr)(pc:Nat)(A:Option Addr)(n c:Nat)(ls:List Nat)(s:Nat)(hs:s<4294967296)(hn:ls.length=n)(hN:n<=9223372036854775807)(h8:∀x∈ls,x<=255)(ht:TabAt w)
 (hp:Row w w P 1 1 (fun _ _=> .slice A n c))(ha:Row w w A n 1 (jZ .u8 ls)):
 Calls prog 168 #[.int .u32 s, .slice P 1 pc] w fun e w'=>e= .returned (.int .u32 (more s ls:Nat))/\w'=w:=by
 obtain⟨pb,po,rfl,ar,ak⟩:=hp mz;have p0:=ak 0 0 mz mz;simp only[Nat.zero_mul,Nat.add_zero]at p0;obtain⟨x0,ae⟩:=ii (4294967295-s);have e0:bits .xor .u32 IntKind.u32.max (s:Int)=(x0:Int):=by have h:=u32_xor_nat 4294967295 s mz hs;rw[show IntKind.u32.max=((4294967295:Nat):Int) by decide,h,ae,flip hs]
 have ag:x0<4294967296:=mz
 have an:=hid ae;have HA:=hid ha;have HT:=hid ht;have HN:=hid hn;have H8:=hid h8;clear ha ht hn h8 ak hp ae;unfold more;rw[<-an.out];go_enter func168,ntmps168;go_wp2_with fail;go_loopw [5,14] (fun xv i wx=>∃ (z:Bool) (x:Nat),xv= .int .u32 x/\i= .int .i64 (if z then 1 else 0)/\Hid (x=if z then run x0 ls else x0)/\x<4294967296/\wx=w) (fun _ i _=>1-(intOf i).toNat)
 case atStart=>exact⟨false,x0,rfl,rfl,rfl,ag,rfl⟩
 case round=>
  obtain⟨z,x,rfl,rfl,hx,E,rfl⟩:=hrel;cases z
  ·obtain rfl:x=x0:=hx.out;clear hx;go_wp2_with fail;go_loopw [5,20] (fun xv i wx=>∃ (k x1:Nat),k<=n/\xv= .int .u32 x1/\i= .int .i64 k/\Hid (x1=run x (ls.take k))/\x1<4294967296/\wx=wr) (fun _ i _=>n-(intOf i).toNat)
   case atStart=>exact⟨0,x,mz,rfl,rfl,rfl,E,rfl⟩
   case round=>
    obtain⟨k,x1,hk,rfl,rfl,Z,j,rfl⟩:=hrel;by_cases aj:k<n
    ·obtain⟨b,au,y,rfl,hb,hy,hc⟩:=CF HA.out HN.out aj;have aq:k<ls.length:=(by rw[HN.out];exact aj);have av:y<=255:=H8.out y (Bg hy);have aa:run x (ls.take (k+1))=MS x1 y:=(by rw[Cm,hy,Option.toList,gA,<-Z.out];rfl);rw[iC]at aa;obtain⟨x2,Y⟩:=ii (x1 ^^^ y);have G:x2<4294967296:=(by rw[Y];exact Nat.xor_lt_two_pow (n:=32) j mz);have e1:bits .xor .u32 (x1:Int) (y:Int)=(x2:Int):=(by rw[u32_xor_nat x1 y j mz,Y]);obtain⟨j2,ah⟩:=ii (x2 % 16);have e2:bits .and .u32 (x2:Int) 15=(j2:Int):=(by rw[show(15:Int)=((15:Nat):Int) from rfl,u32_and_nat x2 15 G mz,ah,show 15=2 ^ 4-1 from rfl,NG]);obtain⟨x3,U⟩:=ii (shN 4 x2);have J:x3<4294967296:=(by rw[U];exact JZ 4 G);have M:j2<16:=mz;have t2:=HT.out j2 M;have ac:tab.getD j2 0<4294967296:=(by rw[NS j2 M];exact JZ 4 mz);obtain⟨d2,am⟩:=ii (x2 / 16);have e3:bits .xor .u32 (d2:Int) (tab.getD j2 0:Nat)=(x3:Int):=(by rw[u32_xor_nat d2 _ mz ac,U,four,am,ah]);obtain⟨j3,ai⟩:=ii (x3 % 16);have e4:bits .and .u32 (x3:Int) 15=(j3:Int):=(by rw[show(15:Int)=((15:Nat):Int) from rfl,u32_and_nat x3 15 J mz,ai,show 15=2 ^ 4-1 from rfl,NG]);obtain⟨x4,Q⟩:=ii (shN 4 x3);have af:x4<4294967296:=(by rw[Q];exact JZ 4 J);have N:j3<16:=mz;have t3:=HT.out j3 N;have ab:tab.getD j3 0<4294967296:=(by rw[NS j3 N];exact JZ 4 mz);obtain⟨d3,al⟩:=ii (x3 / 16);have e5:bits .xor .u32 (d3:Int) (tab.getD j3 0:Nat)=(x4:Int):=(by rw[u32_xor_nat d3 _ mz ab,Q,four,al,ai]);have q2:((x2:Int) / 16)=(d2:Int):=mz;have q3:((x3:Int) / 16)=(d3:Int):=mz;have s1:IntKind.u32.wrap (y:Int)=(y:Int):=oG;have s2:IntKind.u32.wrap (d2:Int)=(d2:Int):=oG;have s3:IntKind.u32.wrap (d3:Int)=(d3:Int):=oG;rw[<-Y,<-U,<-Q]at aa;generalize tab.getD j2 0=u2 at *;generalize tab.getD j3 0=u3 at *;have HY:=hid aa;have y0:(0:Int)<=(k:Int):=mz;have y1:(k:Int)<(n:Int):=mz;have y2:(0:Int)<=(j2:Int):=mz;have y3:(j2:Int)<16:=mz;have y4:(0:Int)<=(j3:Int):=mz;have y5:(j3:Int)<16:=mz;clear aa Y U Q ah ai am al hy aq Z e0;go_wp2_with fail;go_roundw
     case measure=>exact jo
     case rel=>go_light;exact⟨k+1,x4,mz,iy,jp,HY.out.symm,af,iy⟩
    ·obtain rfl:k=n:=by omega
     have h:=Z.out;rw[BV oq]at h;have HR:=hid h;clear h Z e0;go_wp2_with fail;go_roundw
     case measure=>go_light;simp[intOf]
     case rel=>go_light;exact⟨true,x1,iy,iy,HR.out,j,iy⟩
  ·have h:=hx.out;simp only[if_true]at h;have hr:run x0 ls<4294967296:=(by rw[<-h];exact E);have e9:bits .xor .u32 IntKind.u32.max (x:Int)=((4294967295-x:Nat):Int):=(by have h:=u32_xor_nat 4294967295 x mz E;rw[show IntKind.u32.max=((4294967295:Nat):Int) by decide,h,flip E]);have HR:=hid h;clear h hx hr e0;go_wp2_with fail;go_ret;exact⟨Ih (by rw[<-HR.out]),rfl⟩
theorem sum_any(w:World)(A:Option Addr)(n c:Nat)(ls:List Nat)(hn:ls.length=n)(hN:n<=9223372036854775807)(h8:∀x∈ls,x<=255)(ht:TabAt w)(ha:Row w w A n 1 (jZ .u8 ls)):
 Calls prog 102 #[.slice A n c] w fun e w'=>e= .returned (.int .u32 (Cn ls:Nat))/\Below w w w':=by
 have hb:Below w w (w.alloc (.cells #[.slice A n c] 28)):=aZ (Ag _ _)
 have D:=mS (w.alloc (.cells #[.slice A n c] 28)) (some ⟨w,0,none⟩) 1 A n c ls 0 mz hn hN h8 (ht.step hb)
  (Row.of_blk (Blk.made _ _ _) pI (fun i j hi hj=>match i,j,hi,hj with|0,0,_,_=>rfl)) ((ha.below hb).mono hb.size)
 have D:=hid D;clear ha ht h8 hn;go_enter func102,ntmps102;go_wp2_with fail;refine D.out.mono ?_;rintro e w1 ⟨rfl,rfl⟩;go_wp2_with fail;go_ret;exact⟨rfl,hb⟩
theorem RZ(s:Nat):(CR s).length=4:=rfl
def Mv(s:Nat)(w:World)(e:Ending)(w':World):Prop:=
 ∃g,e= .returned (.slice (some ⟨g,0,none⟩) 4 4)/\w.heap.size<=g/\Blk w' g 5 (cZ .u8 (CR s)).toArray/\Below w w w'
theorem T5(w:World)(s:Nat)(hs:s<4294967296):Calls prog 101 #[.int .u32 s] w (Mv s w):=by
 obtain⟨d1,h⟩:=ii (s / 256);obtain⟨d2,E⟩:=ii (s / 65536);obtain⟨d3,y⟩:=ii (s / 16777216);obtain⟨b0,i⟩:=ii (s % 256);obtain⟨b1,G⟩:=ii (d1 % 256);obtain⟨b2,z⟩:=ii (d2 % 256);obtain⟨b3,j⟩:=ii (d3 % 256);have ht:CR s= [b0,b1,b2,b3]:=by rw[i,G,z,j,h,E,y];rfl
 have q1:((s:Int) / 256)=(d1:Int):=mz
 have q2:((s:Int) / 65536)=(d2:Int):=mz
 have q3:((s:Int) / 16777216)=(d3:Int):=mz
 have s1:IntKind.u32.wrap (d1:Int)=(d1:Int):=oG
 have s2:IntKind.u32.wrap (d2:Int)=(d2:Int):=oG
 have s3:IntKind.u32.wrap (d3:Int)=(d3:Int):=oG
 have r0:IntKind.u8.wrap (s:Int)=(b0:Int):=oF
 have r1:IntKind.u8.wrap (d1:Int)=(b1:Int):=oF
 have r2:IntKind.u8.wrap (d2:Int)=(b2:Int):=oF
 have r3:IntKind.u8.wrap (d3:Int)=(b3:Int):=oF
 unfold Mv;rw[ht];clear h E y i G z j ht hs;go_enter func101,ntmps101;go_wp2_with fail;go_ret;exact⟨w.heap.size,rfl,Aq _,Blk.made _ _ _,aZ (Ag _ _)⟩
def Hr(ls:List Nat)(w:World)(e:Ending)(w':World):Prop:=
 ∃v,e= .returned v/\w'.ownsRow w 5 1 v (ls.length+4) (cZ .u8 (ls++CR (Cn ls)))/\Below w w w'
theorem Zt(k:IntKind)(a b:List Nat):cZ k (a++b)=cZ k a++cZ k b:=pT
theorem put_any(w:World)(A:Option Addr)(n c:Nat)(ls:List Nat)(hn:ls.length=n)(ac:n<=100000)(E:A=none->n=0/\c=0)(h8:∀x∈ls,x<=255)(ht:TabAt w)(ha:Row w w A n 1 (jZ .u8 ls)):
 Calls prog 49 #[.slice A n c] w (Hr ls w):=by
 obtain⟨j0,ai,aj,ag,ah⟩:=info_parts Eo;have D1:=hid (If w A n c ls hn ac E ha);have D2:=fun(wx:World) (h:Below w w wx)=>sum_any wx A n c ls hn mz h8 (ht.step h) ((ha.below h).mono h.size);have D2:=hid D2;have af:Cn ls<4294967296:=by unfold Cn;omega
 have D3:=hid (fun wx=>T5 wx (Cn ls) af);have Z:=RZ (Cn ls);unfold Hr;rw[Zt,hn];unfold Mv at D3;generalize Cn ls=s at *;have HT:=hid Z;clear hn E h8 ht ha Z;go_enter func49,ntmps49;go_wp2_with fail;refine D1.out.mono ?_;rintro e w1 ⟨v1,rfl,i,Y⟩;obtain⟨A1,c1,rfl⟩:=bZ i;have N:=hid i;have j:=hid Y;clear i Y D1;go_wp2_with fail;refine(D2.out _ j.out).mono ?_;rintro e w2 ⟨rfl,G⟩;have J:=hid (eZ N.out (fun x hx=>G.block x (Am N.out x hx).2));have U:Hid (Below w w w2):=j.out.trans (G.mono j.out.size);clear G j N D2;go_wp2_with fail;refine(D3.out _).mono ?_;rintro e w3 ⟨g,rfl,hg,z,M⟩;have aa:=hid (eZ J.out (fun x hx=>M.block x (Am J.out x hx).2));have ab:Hid (Below w w w3):=U.out.trans (M.mono U.out.size);have al:=ab.out.size;have HK:=hid z;clear M U J D3 z;go_wp2_with(at_builtin;refine iZ rfl (.tmp 4) (.tmp 7) 28 rfl w 5 j0 _ 1 1 underlying28 ai aj ag ah rfl ip _ _ _ nc aa.out _ 4 4 (cZ .u8 (CR s)) nc (by simpa using Src.of_blk HK.out 4 4 1 (by rw[List.size_toArray,Sg,HT.out])) (Cq _ _) qg mz mz ?_;intro v4 w4 Q ae ak);go_ret;exact⟨_,rfl,Q,ab.out.grown ae mz (fun y hy=>(Am aa.out y hy).1)⟩
end Crc
namespace Crc
open Go.RowKit Mem Own Canon
theorem row_take{f:Nat->Nat->Value}(h:Row w B A n s f)(hm:m<=n):Row w B A m s f:=fun h0=>by obtain⟨b,y,e,hb,hc⟩:=h mz;exact⟨b,y,e,hb,fun i j hi hj=>hc i j mz hj⟩
theorem X6(h:i<m):(ls.take m).getD i 0=ls.getD i 0:=by rw[Ar,List.getElem?_take_of_lt h,<-Ar]
theorem GC(h:Row w B A n 1 (jZ k ls))(hm:m<=n):Row w B A m 1 (jZ k (ls.take m)):=
 (row_take h hm).congr fun i j hi _=>by unfold jZ;rw[X6 hi]
theorem Fe(h:Row w B A n 1 (jZ k ls))(hm:m<=n)(hc:n<=c):Row w B (AW A m c 1) (n-m) 1 (jZ k (ls.drop m)):=
 h.cut m (n-m) mz hc fun i j _ _=>by unfold jZ;rw[Ar,Ar,I3]
theorem FG{P:Program}{t:TypeId}(ht:P.underlying t=some (.slice e))(hs:∀w,(sizeOf e).run P w= .ok s w)(A:Option Addr)(len i:Nat)(kh:IntKind)(h:Int)(m:Nat)(hh:h=m)(hm:m<=i)(hA:∀a,A=some a->a.add 0=a)(w:World):
 (Instr.slice t (.slice A len i) none (some (.int kh h)) none).run P w= .ok (.slice A m i) w:=by
 subst hh;have he:P.elem t=e:=pS
 rw[run_slice_h w t A len i oW kh (m:Int) mz mz,he,hs];cases A with
 |none=>simp[Result.andThen,sliced]
 |some a=>simp[Result.andThen,sliced,hA a rfl]
theorem SJ{la lb:List Nat}{k:Nat}(h:k<la.length)(h':k<lb.length):decide (la.drop k=lb.drop k)=(decide (la.getD k 0=lb.getD k 0)&&decide (la.drop (k+1)=lb.drop (k+1))):=by rw[Ar,Ar,AD h,AD h',FU,FU,Kh,BX,decide_eq_true_eq,decide_eq_true_eq,decide_eq_true_eq,Df h,Df h',List.cons.injEq]
theorem XK(w:World)(A B:Option Addr)(n c d:Nat)(la lb:List Nat)(hn:la.length=n)(hm:lb.length=n)(hN:n<=9223372036854775807)(ha:Row w w A n 1 (jZ .u8 la))(hb:Row w w B n 1 (jZ .u8 lb)):
 Calls prog 117 #[.slice A n c, .slice B n d] w fun e w'=>e= .returned (.bool (decide (la=lb)))/\Below w w w':=by
 have HA:=hid ha;have HB:=hid hb;have HN:=hid hn;have HM:=hid hm;clear ha hb hn hm;go_enter func117,ntmps117;go_wp2_with fail;go_loopw [13] (fun i wx=>∃k:Nat,k<=n/\i= .int .i64 k/\Hid (decide (la.drop k=lb.drop k)=decide (la=lb))/\Hid (Below w w wx)) (fun i _=>n-(intOf i).toNat)
 case atStart=>exact⟨0,mz,rfl,rfl,Ag _ _⟩
 case round=>
  obtain⟨k,hk,rfl,hE,h⟩:=hrel;by_cases j:k<n
  ·obtain⟨b1,o1,x1,rfl,M,E,J⟩:=CF (HA.out.below h.out) HN.out j;obtain⟨b2,o2,x2,rfl,G,z,N⟩:=CF (HB.out.below h.out) HM.out j;have he:=hE.out;rw[SJ (by rw[HN.out];exact j) (by rw[HM.out];exact j),Ar,Ar,E,z]at he;simp only[Option.getD_some]at he;have y0:(0:Int)<=(k:Int):=mz;have y1:(k:Int)<(n:Int):=mz;clear E z hE;by_cases y:x1=x2
   ·subst y;rw[Be rfl,Bool.true_and]at he;have HE:=hid he;have e1:((x1:Int) != (x1:Int))=false:=pI;clear he;go_wp2_with fail;go_quiet (fail);go_wp2_with fail;go_roundw
    case measure=>exact jo
    case rel=>go_light;exact⟨k+1,mz,jp,HE.out,below_drewN h.out _⟩
   ·rw[Bi y,I7]at he;have HE:=hid he;have e1:((x1:Int) != (x2:Int))=true:=pQ;clear he y;go_wp2_with fail;go_quiet (fail);go_wp2_with fail;go_ret;exact⟨Hj HE.out,below_drewN h.out _⟩
  ·obtain rfl:k=n:=by omega
   have he:=hE.out;rw[Eb oq,Eb (by rw[HM.out];exact Aq _)]at he;have HE:=hid he;clear he hE;go_wp2_with fail;go_ret;exact⟨Hj (by rw[<-HE.out];rfl),h.out⟩
def CL(ls:List Nat):Int:=if ls.length<4 then 1 else if ls.drop (ls.length-4)=CR (Cn (ls.take (ls.length-4)))then 0 else 5
def Br(ls:List Nat):List Nat:=if CL ls=0 then ls.take (ls.length-4)else []
def Jh(ls:List Nat)(w:World)(e:Ending)(w':World):Prop:=
 ∃v,e= .returned (.tuple #[v, .int .i64 (CL ls)])/\w'.ownsRow w 5 1 v (Br ls).length (cZ .u8 (Br ls))/\Below w w w'
theorem Mj(w:World)(A:Option Addr)(n c:Nat)(ls:List Nat)(hn:ls.length=n)(ai:n<=100000)(hc:n<=c)(h8:∀x∈ls,x<=255)(ht:TabAt w)(ha:Row w w A n 1 (jZ .u8 ls)):
 Calls prog 60 #[.slice A n c] w (Jh ls w):=by
 unfold Jh;by_cases h4:n<4
 ·have hE:CL ls=1:=by unfold CL;rw[Ae mz]
  have hO:Br ls= []:=by unfold Br;rw[hE];rfl
  rw[hE,hO];have s1:IntKind.i64.wrap ((n:Int)-4)=(n:Int)-4:=nV
  have g1:=ic ((n:Int)-4<0)
  clear ha ht h8 hn hE hO;go_enter func60,ntmps60;go_wp2_with fail;go_ret2;exact⟨_,rfl,AK _ _ _ _,Ag _ _⟩
 ·obtain⟨m,rfl⟩:∃m,n=m+4:=⟨n-4,mz⟩;obtain⟨ab,ao,rfl,ah,af⟩:=ha mz;have N:ls.length-4=m:=by omega
  have s1:IntKind.i64.wrap ((((m+4:Nat)):Int)-4)=(m:Int):=nW
  have g1:=ig ((m:Int)<0)
  have hb:=GC ha (show m<=m+4 by omega);have hd:=Fe ha (show m<=m+4 by omega) hc;rw[show m+4-m=4 by omega]at hd;have G:(ls.take m).length=m:=nX
  have U:(ls.drop m).length=4:=nm
  have Z:∀x∈ls.take m,x<=255:=fun x hx=>h8 x (C7 hx);have ag:Cn (ls.take m)<4294967296:=by unfold Cn;omega
  have k1:=fun wx=>Gc (P:=prog) (t:=28) (s:=1) underlying28 (fun _=>by kernel_rfl) (some ⟨ab,ao,none⟩) (m+4) c .i64 (m:Int) m rfl mz wx;have k2:=fun wx=>FG (P:=prog) (t:=28) (s:=1) underlying28 (fun _=>by kernel_rfl) (some ⟨ab,ao,none⟩) (m+4) c .i64 (m:Int) m rfl mz (fun a ha=>by injection ha with ha;subst ha;exact Gh ab ao 0) wx;rw[show m+4-m=4 by omega]at k1;have D1:=hid (fun(wx:World) (h:Below w w wx)=>sum_any wx (some ⟨ab,ao,none⟩) m c (ls.take m) G mz Z (ht.step h) ((hb.below h).mono h.size));have D2:=hid (fun wx=>T5 wx (Cn (ls.take m)) ag);have Y:=RZ (Cn (ls.take m));unfold Mv at D2;have hE:CL ls=if ls.drop m=CR (Cn (ls.take m))then 0 else 5:=by unfold CL;rw[Ab mz,N]
  have hO:Br ls=if CL ls=0 then ls.take m else []:=by unfold Br;rw[N]
  generalize AW (some ⟨ab,ao,none⟩) m c 1=A1 at *
  have D3:Hid (∀ (wx:World) g,Below w w wx->Blk wx g 5 (cZ .u8 (CR (Cn (ls.take m)))).toArray->Calls prog 117 #[.slice A1 4 (c-m), .slice (some ⟨g,0,none⟩) 4 4] wx fun e w'=>e= .returned (.bool (decide (ls.drop m=CR (Cn (ls.take m)))))/\Below wx wx w'):=by
   intro wx g h hg;refine XK wx A1 (some ⟨g,0,none⟩) 4 (c-m) 4 _ _ U Y mz ((hd.below h).mono h.size) (Row.of_blk hg hg.lt fun i j hi hj=> ?_);obtain rfl:j=0:=mz
   rw[CG,Bj];simp[cZ,jZ,List.getD_eq_getElem?_getD,List.getElem?_eq_getElem (show i<(CR (Cn (ls.take m))).length by omega)]
  have D4:=hid (fun(wx:World) (h:Below w w wx)=>If wx (some ⟨ab,ao,none⟩) m c (ls.take m) G mz (fun h=>by cases h) ((hb.below h).mono h.size));generalize Cn (ls.take m)=s at *;clear ha af hb hd h8 ht Z h4 N hn;have ac:=hid G;clear G U Y;by_cases y:ls.drop m=CR s
  ·rw[Ae y]at hE;rw[hE,Ae rfl]at hO;rw[hE,hO,ac.out];rw[Be y]at D3;clear y hE hO;go_enter func60,ntmps60;go_upto_region 4 with fail;go_region_held3 (fun _=>True) (trivial) (first|(go_at_call 102;(with_reducible refine(D1.out _ qh).mono ?_);rintro e w1 ⟨rfl,Q⟩)|(go_at_call 101;(with_reducible refine(D2.out _).mono ?_);rintro e w2 ⟨g,rfl,hg,E,M⟩)|(go_at_call 117;(with_reducible refine(D3.out _ _ qh im).mono ?_);rintro e w3 ⟨rfl,J⟩));have z:Below w w w3:=qh;have HB:=hid z;clear Q M J z E D1 D2 D3;go_wp2_with fail;refine(D4.out _ HB.out).mono ?_;rintro e w4 ⟨v,rfl,aa,ae⟩;go_wp2_with fail;go_ret2;exact⟨_,rfl,kZ aa HB.out.size,HB.out.trans (ae.mono HB.out.size)⟩
  ·rw[Ab y]at hE;rw[hE,Ab mz]at hO;rw[hE,hO];rw[Bi y]at D3;clear y hE hO;go_enter func60,ntmps60;go_upto_region 4 with fail;go_region_held3 (fun _=>True) (trivial) (first|(go_at_call 102;(with_reducible refine(D1.out _ qh).mono ?_);rintro e w1 ⟨rfl,Q⟩)|(go_at_call 101;(with_reducible refine(D2.out _).mono ?_);rintro e w2 ⟨g,rfl,hg,E,M⟩)|(go_at_call 117;(with_reducible refine(D3.out _ _ qh im).mono ?_);rintro e w3 ⟨rfl,J⟩));have z:Below w w w3:=qh;have HB:=hid z;clear Q M J z E D1 D2 D3;go_wp2_with fail;go_ret2;exact⟨_,rfl,AK _ _ _ _,HB.out⟩
end Crc
namespace Crc
open Go.RowKit Mem Own Canon
theorem lU(w:World)(x:Nat)(hx:x<4294967296):Calls prog 257 #[.int .u32 x] w fun e w'=>e= .returned (.int .u32 (sh x:Nat))/\w'=w:=by
 have e0:bits .xor .u32 ((x / 2:Nat):Int) 3988292384=(((x / 2) ^^^ 3988292384:Nat):Int):=by have h:=u32_xor_nat (x / 2) 3988292384 mz mz;exact h
 have c0:((x:Int) / 2)=((x / 2:Nat):Int):=mz
 by_cases h2:x % 2=1
 ·have g1:((x:Int) % 2==1)=true:=by rw[beq_iff_eq];omega
  have hs:sh x=(x / 2) ^^^ 3988292384:=Ae h2;rw[hs];rw[<-c0]at e0;generalize (x / 2) ^^^ 3988292384=y at *;clear hs c0 h2;go_enter func257,ntmps257;go_wp2_with fail;go_ret;exact⟨rfl,rfl⟩
 ·have g1:((x:Int) % 2==1)=false:=by rw[FQ];omega
  have hs:sh x=x / 2:=Ab h2;rw[hs];clear hs e0 h2 c0;go_enter func257,ntmps257;go_wp2_with fail;go_ret;exact⟨pI,rfl⟩
theorem Xs(w:World)(s:Nat)(hs:s<4294967296)(A:Option Addr)(n c:Nat)(ls:List Nat)(hn:ls.length=n)(ah:n<=1000000)(h8:∀x∈ls,x<=255)(ha:Row w w A n 1 (jZ .u8 ls)):
 Calls prog 209 #[.int .u32 s, .slice A n c] w fun e w'=>e= .returned (.int .u32 (more s ls:Nat))/\Below w w w':=by
 have e0:IntKind.u32.wrap (4294967295-(s:Int))=((4294967295-s:Nat):Int):=oG
 obtain⟨R,hR⟩:=ii (run (4294967295-s) ls);have aj:R<4294967296:=by rw[hR];exact d6 mz (fun c hc=>by have:=h8 c hc;omega)
 have hm:more s ls=4294967295-R:=by unfold more;rw[hR]
 rw[hm];have G:Hid (run (4294967295-s) (ls.drop 0)=R):=hR.symm
 have HA:Hid (∀i,i<n->∃b j,A=some ⟨b,j,none⟩/\w.cell? ⟨b,j+i,none⟩=some (.int .u8 (ls.getD i 0:Nat))/\b<w.heap.size/\ls.getD i 0<=255/\ls.drop i=ls.getD i 0 :: ls.drop (i+1)):=fun i hi=>by
  obtain⟨b,j,rfl,Q,hc⟩:=ha mz;have:=hc i 0 hi mz;simp only[jZ,Nat.mul_one,Nat.add_zero]at this;have hg:ls.getD i 0=ls[i]:=by rw[Ar,AD mz];rfl
  exact⟨b,j,rfl,this,Q,by rw[hg];exact h8 _ (Fo mz),by rw[hg];exact Df mz⟩
 have HE:Hid (ls.drop n= []):=List.drop_eq_nil_of_le mz;have B:=fun(w:World) (x:Nat) (hx:x<4294967296)=>lU w x hx;have HB:=hid B;obtain⟨x0,M⟩:=ii (4294967295-s);have Y:x0<4294967296:=mz
 rw[<-M]at e0 G;clear hR hm h8 ha hn B M;go_enter func209,ntmps209;go_wp2_with fail;go_loopw [5,6] (fun u v wr=>∃x i:Nat,u= .int .u32 x/\v= .int .i64 i/\x<4294967296/\i<=n/\Hid (run x (ls.drop i)=R)/\wr=w) (fun _ v _=>n-(intOf v).toNat)
 case atStart=>exact⟨x0,0,rfl,rfl,Y,mz,G.out,rfl⟩
 case round=>
  obtain⟨x,i,rfl,rfl,hx,hi,HR,rfl⟩:=hrel;clear G;by_cases ac:i<n
  ·obtain⟨b,j,rfl,hc,Q,ag,hd⟩:=HA.out i ac;have g1:=ic ((i:Int)<n);have aa:=ic (i<n);have y0:(0:Int)<=(i:Int):=mz;have y1:(i:Int)<(n:Int):=mz;have s2:IntKind.i64.wrap ((i:Int)+1)=((i+1:Nat):Int):=nW;have U:Hid (run (shN 8 (x ^^^ ls.getD i 0)) (ls.drop (i+1))=R):=(by have h:=HR.out;rw[hd]at h;exact h);generalize ls.getD i 0=y at *;have e1:bits .xor .u32 (x:Int) (y:Int)=((x ^^^ y:Nat):Int):=u32_xor_nat x y hx mz;have e2:IntKind.u32.wrap (y:Int)=(y:Int):=oG;have ab:x ^^^ y<4294967296:=Nat.xor_lt_two_pow (n:=32) hx mz;generalize x ^^^ y=z at *;clear hd HR;obtain⟨w0,rfl⟩:=ii wr;go_wp2_with fail;go_loopw [5,7] (fun u v wr=>∃a k:Nat,u= .int .u32 a/\v= .int .i64 k/\a<4294967296/\k<=8/\Hid (shN (8-k) a=shN 8 z)/\wr=w0) (fun _ v _=>8-(intOf v).toNat)
   case atStart=>exact⟨z,0,rfl,rfl,ab,mz,by exact(rfl:shN 8 z=shN 8 z),rfl⟩
   case round=>
    obtain⟨a,k,rfl,rfl,J,hk,HS,rfl⟩:=hrel;by_cases h8:k<8
    ·have g2:=ic ((k:Int)<8);have ai:=ic (k<8);have s3:IntKind.i64.wrap ((k:Int)+1)=((k+1:Nat):Int):=nW;have E:Hid (shN (8-(k+1)) (sh a)=shN 8 z):=(by have h:=HS.out;rw[show 8-k=(8-(k+1))+1 by omega]at h;exact h);have af:=VU J;have N:=hid (HB.out wr a J);generalize sh a=a' at *;clear HS;go_wp2_with fail;refine N.out.mono ?_;rintro e w9 ⟨rfl,rfl⟩;clear N;go_wp2_with fail;go_roundw
     case measure=>exact jo
     case rel=>go_light;exact⟨a',k+1,rfl,rfl,af,mz,E.out,trivial⟩
    ·obtain rfl:k=8:=by omega
     have E:Hid (a=shN 8 z):=HS.out;have ae:Hid (run a (ls.drop (i+1))=R):=(by rw[E.out];exact U.out);clear HS U E;go_wp2_with fail;go_roundw
     case measure=>exact jo
     case rel=>go_light;exact⟨a,i+1,rfl,rfl,J,mz,ae.out,trivial⟩
  ·obtain rfl:i=n:=by omega
   have Z:Hid (x=R):=(by have h:=HR.out;rw[HE.out]at h;exact h);have e1:IntKind.u32.wrap (4294967295-(x:Int))=((4294967295-x:Nat):Int):=oG;have g1:=ig ((i:Int)<i);have aa:=ig (i<i);go_wp2_with fail;go_ret;exact⟨by rw[<-Z.out];first|rfl|simp,Ag _ _⟩
theorem kX(w:World)(A:Option Addr)(n c:Nat)(ls:List Nat)(hn:ls.length=n)(h:n<=1000000)(h8:∀x∈ls,x<=255)(ha:Row w w A n 1 (jZ .u8 ls)):
 Calls prog 140 #[.slice A n c] w fun e w'=>e= .returned (.int .u32 (Cn ls:Nat))/\Below w w w':=by
 have D:=hid (Xs w 0 mz A n c ls hn h h8 ha);have hm:more 0 ls=Cn ls:=rfl;rw[hm]at D;clear hn h8 ha hm;go_enter func140,ntmps140;go_wp2_with fail;refine D.out.mono ?_;rintro e w1 ⟨rfl,hb⟩;go_wp2_with fail;go_ret;exact⟨rfl,hb⟩
def Ie(s:Nat):Nat->List Nat
 |0=> []
 |k+1=>s % 256 :: Ie (s / 256) k
theorem fC:Ie s 4=CR s:=by simp[Ie,CR,Nat.div_div_eq_div_mul]
theorem PI(w:World)(A:Option Addr)(n c:Nat)(ls:List Nat)(hn:ls.length=n)(aj:n<=1000000)(E:A=none->n=0/\c=0)(h8:∀x∈ls,x<=255)(ha:Row w w A n 1 (jZ .u8 ls)):
 Calls prog 78 #[.slice A n c] w (Hr ls w):=by
 obtain⟨j0,Z,ac,af,ag⟩:=info_parts Eo;have D:=hid (kX w A n c ls hn aj h8 ha);have am:Cn ls<4294967296:=by unfold Cn;omega
 unfold Hr;rw[<-fC];generalize Cn ls=s at *;have z:Hid (∀wx,Below w w wx->Src wx A n c 1 (cZ .u8 ls)):=fun wx hb=>KK ((ha.below hb).mono hb.size) hn E;have HN:=hid hn;obtain⟨R,hR⟩:=ii (ls++Ie s 4);have ae:Hid (ls++Ie s 4=R):=hR.symm;have aq:Hid (R.length=n+4):=by rw[hR,Aj,hn];exact rfl
 rw[<-hR];clear hR;rw[hn];clear hn E h8 ha;go_enter func78,ntmps78;go_wp2_with fail;refine D.out.mono ?_;rintro e w1 ⟨rfl,hb⟩;have G:=hid hb;clear D hb;have al:=G.out.size
 have J:Hid ((w1.alloc (.cells #[] 5)).ownsRow w 5 1 (.slice (some ⟨w1,0,none⟩) 0 0) 0 []):=
  ⟨rfl, .inr ⟨w1.heap.size,0,#[],rfl,al,heap_alloc_new w1 _,Aq _,qg,rfl,rfl⟩⟩
 have N:Hid (Below w w (w1.alloc (.cells #[] 5))):=aZ G.out;have Q:=hid (z.out _ N.out);clear G z;go_wp2_with(at_builtin;refine iZ rfl (.tmp 8) (.tmp 9) 28 rfl w 5 j0 _ 1 1 underlying28 Z ac af ag rfl ip _ _ _ nc J.out _ _ _ _ nc Q.out (Cq _ _) qg mz pQ ?_;intro v4 w4 i ab U);have aa:Hid (w4.ownsRow w 5 1 v4 (n+0) (cZ .u8 ls)):=by rw[show n+0=0+n by omega];exact i
 have Y:Hid (Below w w w4):=N.out.grown ab pQ (fun y hy=>(Am J.out y hy).1);clear i ab U J N Q;go_loopw [3,4,5] (fun u v t wr=>∃ (a k:Nat) (done:List Nat),u= .int .u32 a/\t= .int .i64 k/\a<4294967296/\k<=4/\Hid (done++Ie a (4-k)=R)/\Hid (wr.ownsRow w 5 1 v (n+k) (cZ .u8 done))/\Hid (Below w w wr)) (fun _ _ t _=>4-(intOf t).toNat)
 case atStart=>exact⟨s,0,ls,rfl,rfl,am,mz,ae.out,aa.out,Y.out⟩
 case round=>
  obtain⟨a,k,done,rfl,rfl,au,hk,HR,HO,HB⟩:=hrel;clear aa Y ae;have hz:=HB.out.size;by_cases h4:k<4
  ·have g2:=ic ((k:Int)<4);have ar:=ic (k<4);have s3:IntKind.i64.wrap ((k:Int)+1)=((k+1:Nat):Int):=nW;have c1:IntKind.u8.wrap ((a:Int) % 256)=((a % 256:Nat):Int):=oF;have j:Hid ((done++ [a % 256])++Ie (a / 256) (4-(k+1))=R):=(by have h:=HR.out;rw[show 4-k=(4-(k+1))+1 by omega,Ie]at h;rw[AJ];exact h);obtain⟨b,hb⟩:=ii (a % 256);rw[<-hb]at c1 j;clear hb HR;go_wp2_with(at_builtin;refine iZ rfl (.tmp 15) (.tmp 19) 28 rfl w 5 j0 _ 1 1 underlying28 Z ac af ag rfl ip _ _ _ nc (HO.out.alloc _) _ 1 1 [.int .u8 (b:Nat)] nc (Src.of_blk (g:=wr.heap.size) (Blk.made _ _ _) 1 1 1 rfl) mj qg mz pQ ?_;intro v5 w5 M ah an);have ak:Hid (w5.ownsRow w 5 1 v5 (n+(k+1)) (cZ .u8 (done++ [b]))):=(by rw[show cZ .u8 (done++ [b])=cZ .u8 done++ [.int .u8 (b:Nat)] by simp[cZ]];exact M);have ai:Hid (Below w w w5):=(aZ HB.out).grown ah pQ (fun y hy=>(Am HO.out y hy).1);exact⟨⟨a / 256,k+1,done++ [b],AE _ mz,rfl,mz,mz,j.out,ak.out,ai.out⟩,pY⟩
  ·obtain rfl:k=4:=by omega
   have j:Hid (done=R):=(by have h:=HR.out;rw[show 4-4=0 from rfl,Ie,Ce]at h;exact h);clear HR;go_wp2_with fail;go_ret;exact⟨_,rfl,by rw[<-j.out];exact HO.out,HB.out⟩
end Crc
namespace Huff
open Go.RowKit Mem Canon
def Fb(ls:List Nat)(s:Int):Nat:=if s<0 then 0 else ls.getD s.toNat 0
theorem dU(w:World)(g B:Nat)(A:Option Addr)(n c:Nat)(ls:List Nat)(s:Int)(hn:ls.length=n)(hs: -9223372036854775808<=s/\s<=9223372036854775807)
 (h:∀x∈ls,x<=255)(hg:w.cell? ⟨g,0,none⟩=some (.slice A n c))(ha:Row w B A n 1 (jZ .u8 ls)):
 Calls prog 319 #[.pointer (some ⟨g,0,none⟩),s] w fun e w'=>e= .returned (.int .i64 (Fb ls s:Nat))/\w=w':=by
 obtain⟨z,j⟩:=hs;by_cases h0:s<0
 ·have e0:Fb ls s=0:=by unfold Fb;rw[Ae h0]
  rw[e0];clear h hn;go_enter func319,ntmps319;go_wp2_with fail;go_ret;exact⟨rfl,rfl⟩
 ·obtain⟨m,rfl⟩:=Iz (show 0<=s by omega);by_cases h1:m<n
  ·obtain⟨b,y,x,rfl,hb,hx,hc⟩:=CF ha hn h1;have i:x<=255:=h x (Bg hx);have e0:Fb ls (m:Int)=x:=(by unfold Fb;rw[Ab h0];simp[List.getD_eq_getElem?_getD,hx]);rw[e0];have x0:(0:Int)<=(m:Int):=mz;have x1:(m:Int)<(n:Int):=mz;clear h hn hx;go_enter func319,ntmps319;go_wp2_with fail;go_ret;exact⟨jp,rfl⟩
  ·have e0:Fb ls (m:Int)=0:=(by unfold Fb;rw[Ab h0];simp[List.getD_eq_getElem?_getD,List.getElem?_eq_none (show ls.length<=m by omega)]);rw[e0];have x1:¬(m:Int)<(n:Int):=mz;clear h hn;go_enter func319,ntmps319;go_wp2_with fail;go_ret;exact⟨rfl,rfl⟩
theorem len_any(w:World)(g B:Nat)(A:Option Addr)(n c:Nat)(ls:List Nat)(s:Int)(hn:ls.length=n)(hs: -9223372036854775808<=s/\s<=9223372036854775807)
 (h:∀x∈ls,x<=255)(hg:w.cell? ⟨g,0,none⟩=some (.slice A n c))(ha:Row w B A n 1 (jZ .u8 ls)):
 Calls prog 278 #[.pointer (some ⟨g,0,none⟩),s] w fun e w'=>e= .returned (.int .i64 (Fb ls s:Nat))/\w=w':=by
 have C:=hid (dU w g B A n c ls s hn hs h hg ha);clear hn hs h ha;go_enter func278,ntmps278;go_wp2_with fail;refine C.out.mono ?_;rintro e w1 ⟨rfl,rfl⟩;go_wp2_with fail;go_ret;exact⟨rfl,rfl⟩
end Huff
namespace Huff
open Canon
def Bq(ls:List Nat):List Bool:=(List.range (8*ls.length)).map fun i=>decide (ls.getD (i / 8) 0 / 2 ^ (7-i % 8) % 2=1)
theorem EC(ls:List Nat):(Bq ls).length=8*ls.length:=by simp[Bq]
theorem MZ(h:i<8*ls.length):bit (Bq ls) i=ls.getD (i / 8) 0 / 2 ^ (7-i % 8) % 2:=by unfold bit Bq;rw[Ar,BE,List.getElem?_range h];simp only[Option.map_some,Option.getD_some,decide_eq_true_eq];split<;>omega
theorem QB(bs:List Bool)(i:Nat):bit (Bq (bytesOf bs)) i=bit bs i:=by
 by_cases h:i<8*(bytesOf bs).length
 ·rw[MZ h];rw[bytesOf_length]at h;have e:(bytesOf bs).getD (i / 8) 0=CT bs (i / 8):=by unfold bytesOf;rw[Ar,BE,List.getElem?_range mz];rfl
  rw[e];obtain⟨q,r,hr,hi⟩:∃q r,r<8/\i=8*q+r:=⟨i / 8,i % 8,mz,mz⟩;have e1:i / 8=q:=mz
  have e2:i % 8=r:=mz
  rw[e1,e2];subst hi;unfold CT;have h0:=Ey bs (8*q);have h1:=Ey bs (8*q+1);have h2:=Ey bs (8*q+2);have h3:=Ey bs (8*q+3);have h4:=Ey bs (8*q+4);have h5:=Ey bs (8*q+5);have h6:=Ey bs (8*q+6);have h7:=Ey bs (8*q+7);have:r=0∨r=1∨r=2∨r=3∨r=4∨r=5∨r=6∨r=7:=mz
  rcases this with rfl|rfl|rfl|rfl|rfl|rfl|rfl|rfl<;>(simp only[Nat.add_zero,Nat.sub_zero,Nat.reduceSub,Nat.reducePow];omega)
 ·rw[Fw (by rw[EC];omega),Fw (by rw[bytesOf_length]at h;omega)]
theorem O3{a b:List Bool}(h:∀i,bit a i=bit b i)(i:Nat):∀m,zZ a i m=zZ b i m
 |0=>rfl
 |m+1=>by rw[zZ,zZ,O3 h i m,h]
def head(bs:List Bool)(at_:Nat):Nat:=zZ bs at_ 15
def there(bs:List Bool)(at_:Nat):Nat:=min 15 (bs.length-at_)
theorem MV(h:okB ls=true)(hx:ls[s]? =some x)(h0:x≠0){bs:List Bool}(pre post:List Bool)(hb:∀i,bit bs i=bit (pre++word ls s++post) i)(hl:pre.length+x<=bs.length):
 En ls (head bs pre.length) (there bs pre.length)=((s:Int),0,x):=by
 obtain⟨_,j,_⟩:=ok_parts h;have y:=j x (Bg hx);refine Q9 h hx (Hd.2 ⟨x,hx,h0,by unfold there;omega,?_⟩);have e:ls.getD s 0=x:=by simp[List.getD_eq_getElem?_getD,hx]
 unfold head;have h1:=QS bs pre.length x (15-x);rw[show x+(15-x)=15 by omega]at h1;rw[h1,O3 hb];unfold word;rw[e];have h2:=L3 (code ls s) x (PT h hx h0) (pre++msb (code ls s) x x++post) pre post rfl x (Aq _);rw[h2,Gn,Nat.pow_zero,Nat.div_one]
theorem Xa{s:Int}(h:Fb ls s≠0):∃m x:Nat,s=m/\ls[m]? =some x/\x≠0:=by
 unfold Fb at h;split at h
 ·exact absurd rfl h
 ·rename_i h0;refine⟨s.toNat,ls.getD s.toNat 0,mz,?_,h⟩;rcases Nat.lt_or_ge s.toNat ls.length with h1|h1
  ·simp[List.getD_eq_getElem?_getD,h1]
  ·rw[Ar,Fp h1]at h;simp at h
end Huff
namespace Canon
open Go.RowKit Mem Own
theorem Sx{base:Nat}{xs:List Value}(h:w.ownsRow base e 1 (.slice A n c) n xs):Src w A n c 1 xs:=by
 obtain⟨h0,h1⟩:=h;refine⟨h0,?_⟩;rcases h1 with ⟨hv,_⟩|⟨g,y,cur,hv,_,hh,_,_,_,i⟩
 ·injection hv with e1 e2 e3;exact .inl ⟨e1,e2,e3⟩
 ·injection hv with e1 e2 e3;refine .inr ⟨⟨g,0,none⟩,e1,fun j u hu=> ?_⟩;rw[Gh,Ck,Blk.cell hh];rw[<-i,Gq]at hu;split at hu
  ·simpa using hu
  ·cases hu
theorem Wj:(prog.info? 3).map (fun i=>(i.zero,i.size,i.bytes))=some (some (.int .i64 0),1,8):=mr
theorem WL(w:World)(base:Nat)(A:Option Addr)(n c:Nat)(xs:List Value)(Y:n<=3000000)(h:w.ownsRow base 3 1 (.slice A n c) n xs)(j:∀u∈xs,u.oneCell'=true):
 Calls prog 62 #[.slice A n c] w fun e w'=>∃v,e= .returned v/\w'.ownsRow w 3 1 v n xs/\Below w w w':=by
 obtain⟨j0,E,J,M,N⟩:=info_parts Wj;have U:=fun(w:World) (a:Option Addr) (n c:Nat)=>Lib.run_eql_slice_nil (P:=prog) w 37 3 a n c 0 0 underlying37;cases A with
 |none=>obtain⟨rfl,rfl⟩:=(Ex h).1 rfl;have hl:xs= []:=Gr lz;subst hl;clear h j;go_enter func62,ntmps62;go_wp2_with fail;go_ret;exact⟨_,rfl,AK _ _ _ _,Ag _ _⟩
 |some ad=>
  have y:(w.alloc (.cells #[] 3)).ownsRow w 3 1 (.slice (some ⟨w,0,none⟩) 0 0) 0 []:=World.ownsRow_made w #[] 0 (Aq _) qg rfl;have z:Src (w.alloc (.cells #[] 3)) (some ad) n c 1 xs:=Sx (h.alloc _);clear h;go_enter func62,ntmps62;go_wp2_with(at_builtin;refine iZ rfl (.tmp 5) (.tmp 6) 37 rfl w 3 j0 _ 1 8 underlying37 E J M N rfl ip _ _ _ nc y _ n _ xs nc z j qg mz pI ?_;intro v3 w3 i G Q;obtain⟨A3,c3,rfl⟩:=bZ i);go_ret;refine⟨_,rfl,?_,?_⟩
  ·simpa using i
  ·exact(aZ (o:= .cells #[] 3) (Ag _ _)).grown G pI (fun k hk=>by simp[Value.ownBlock]at hk;omega)
theorem nO:(prog.info? 9).map (fun i=>(i.zero,i.size,i.bytes))=some (some (.string ⟨#[]⟩),1,16):=mr
theorem Wq(w:World)(base:Nat)(A:Option Addr)(n c:Nat)(xs:List Value)(Y:n<=3000000)(h:w.ownsRow base 9 1 (.slice A n c) n xs)(j:∀u∈xs,u.oneCell'=true):
 Calls prog 67 #[.slice A n c] w fun e w'=>∃v,e= .returned v/\w'.ownsRow w 9 1 v n xs/\Below w w w':=by
 obtain⟨j0,E,J,M,N⟩:=info_parts nO;have U:=fun(w:World) (a:Option Addr) (n c:Nat)=>Lib.run_eql_slice_nil (P:=prog) w 50 9 a n c 0 0 underlying50;cases A with
 |none=>obtain⟨rfl,rfl⟩:=(Ex h).1 rfl;have hl:xs= []:=Gr lz;subst hl;clear h j;go_enter func67,ntmps67;go_wp2_with fail;go_ret;exact⟨_,rfl,AK _ _ _ _,Ag _ _⟩
 |some ad=>
  have y:(w.alloc (.cells #[] 9)).ownsRow w 9 1 (.slice (some ⟨w,0,none⟩) 0 0) 0 []:=World.ownsRow_made w #[] 0 (Aq _) qg rfl;have z:Src (w.alloc (.cells #[] 9)) (some ad) n c 1 xs:=Sx (h.alloc _);clear h;go_enter func67,ntmps67;go_wp2_with(at_builtin;refine iZ rfl (.tmp 5) (.tmp 6) 50 rfl w 9 j0 _ 1 16 underlying50 E J M N rfl ip _ _ _ nc y _ n _ xs nc z j qg mz pI ?_;intro v3 w3 i G Q;obtain⟨A3,c3,rfl⟩:=bZ i);go_ret;refine⟨_,rfl,?_,?_⟩
  ·simpa using i
  ·exact(aZ (o:= .cells #[] 9) (Ag _ _)).grown G pI (fun k hk=>by simp[Value.ownBlock]at hk;omega)
end Canon
end Go.Proofs.YtfgdoknipbpfhaaGreatDoor
