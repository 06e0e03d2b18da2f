/- The walk of the library's Clone of bytes. Plain: sums of bytes by shif -/
import Derived.Test.YtbgoibedicbkjaaGreatDoorZTwoOpens2
import Derived.Test.YtbgoibedicbkjaaGreatDoorZTwoOpens1
import Derived.WalkSpells
import Derived.WalkKit
import Derived.Laws.BitsAllLaws
import Derived.Deep.RegionHeld3
namespace Go.Proofs.YtbgoibedicbkjaaGreatDoor end Go.Proofs.YtbgoibedicbkjaaGreatDoor open Go.Proofs.YtbgoibedicbkjaaGreatDoor
open Go.Lib (hid)
set_option maxHeartbeats 1000000
set_option maxRecDepth 100000
namespace Go.Proofs.YtbgoibedicbkjaaGreatDoor.Canon
open Go.RowKit Mem
def cZ(k:IntKind)(ls:List Nat):List Value:=ls.map fun x=> .int k (x:Nat)
theorem uoZ(k:IntKind)(ls:List Nat):(cZ k ls).length=ls.length:=by simp[cZ]
theorem wZ(k:IntKind)(ls:List Nat):∀u∈cZ k ls,u.oneCell'=true:=by
 intro u hu
 obtain⟨x,_,rfl⟩:=List.mem_map.1 hu
 rfl
theorem ugZ{w:World}{B n c:Nat}{A:Option Addr}{k:IntKind}{ls:List Nat}(h:Row w B A n 1 (mZ k ls))(hn:ls.length=n)(hnil:A=none->n=0/\c=0):Src w A n c 1 (cZ k ls):=by
 refine⟨by rw[uoZ,hn,Nat.mul_one],?_⟩
 cases A with
 |none=>exact .inl ⟨rfl,hnil rfl⟩
 |some ad=>
  refine .inr ⟨ad,rfl,fun j u hu=> ?_⟩
  obtain⟨x,hx,rfl⟩:=List.getElem?_map .. ▸ hu |> Option.map_eq_some_iff.1
  have hj:j<n:=by
   have:=(List.getElem?_eq_some_iff.1 hx).1
   omega
  obtain⟨b,off,y,e,hb,hy,hc⟩:=kbZ h hn hj
  injection e with e
  subst e
  rw[hx]at hy
  injection hy with hy
  subst hy
  rw[add_none]
  exact hc
theorem acZ:(Tryz.prog.info? 5).map (fun i=>(i.zero,i.size,i.bytes))=some (some (.int .u8 0),1,1):=by kernel_rfl
theorem mgZ(w:World)(A:Option Addr)(n c:Nat)(ls:List Nat)(hn:ls.length=n)(hle:n<=100000)(hnil:A=none->n=0/\c=0)(ha:Row w w.heap.size A n 1 (mZ .u8 ls)):
 Calls Tryz.prog 84 #[.slice A n c] w fun e w'=>∃v,e= .returned v/\w'.ownsRow w.heap.size 5 1 v n (cZ .u8 ls)/\Below w.heap.size w w':=by
 obtain⟨j0,hj0,hy0,hy1,hy2⟩:=info_parts acZ
 have HN:=hid hn
 have heq:=fun(w:World) (a:Option Addr) (n c:Nat)=>Lib.run_eql_slice_nil (P:=Tryz.prog) w 22 5 a n c 0 0 Tryz.underlying22
 cases A with
 |none=>
  obtain⟨rfl,rfl⟩:=hnil rfl
  have hl:ls= []:=List.eq_nil_of_length_eq_zero hn
  subst hl
  clear hn hnil
  go_enter Tryz.func84,Tryz.ntmps84
  go_wp2_with fail
  go_ret
  exact⟨_,rfl,World.ownsRow_nil _ _ _ _,Below.refl _ _⟩
 |some ad=>
  have hsrc0:=ugZ (c:=c) ha hn hnil
  have hown:(w.alloc (.cells #[] 5)).ownsRow w.heap.size 5 1 (.slice (some ⟨w.heap.size,0,none⟩) 0 0) 0 []:=World.ownsRow_made w #[] 0 (Nat.le_refl _) (by unfold maxLen;omega) rfl
  have hsrc:Src (w.alloc (.cells #[] 5)) (some ad) n c 1 (cZ .u8 ls):=by
   refine⟨hsrc0.1, .inr ⟨ad,rfl,fun j u hu=> ?_⟩⟩
   rcases hsrc0.2 with ⟨h,_⟩|⟨ad',h1,h2⟩
   ·cases h
   ·injection h1 with h1
    subst h1
    have hc:=h2 j u hu
    exact(World.cell?_of_block (Below.heap_alloc w _ _ (World.block_lt_of_cell? _ _ hc))).trans hc
  clear hn hnil hsrc0
  go_enter Tryz.func84,Tryz.ntmps84
  go_wp2_with(at_builtin;refine kZ rfl (.tmp 5) (.tmp 6) 22 rfl w.heap.size 5 j0 _ 1 1 Tryz.underlying22 hj0 hy0 hy1 hy2 rfl (by decide) _ _ _ (by rfl) hown _ n _ (cZ .u8 ls) (by rfl) hsrc (wZ _ _) (by unfold maxLen;omega) (by omega) (by simp) ?_;intro v3 w3 hown3 hg3 hat3;obtain⟨A3,c3,rfl⟩:=bZ hown3)
  go_ret
  refine⟨_,rfl,?_,?_⟩
  ·simpa using hown3
  ·exact(aZ (o:= .cells #[] 5) (Below.refl _ _)).grown hg3 (by simp) (fun k hk=>by simp[Value.ownBlock]at hk;omega)
end Go.Proofs.YtbgoibedicbkjaaGreatDoor.Canon
namespace Go.Proofs.YtbgoibedicbkjaaGreatDoor.Crc
def sh(x:Nat):Nat:=if x % 2=1 then(x / 2) ^^^ 3988292384 else x / 2
def shN:Nat->Nat->Nat
 |0,x=>x
 |n+1,x=>shN n (sh x)
theorem qzZ(m:Nat):∀ (n x:Nat),shN (n+m) x=shN m (shN n x)
 |0,x=>by rw[Nat.zero_add];rfl
 |n+1,x=>by rw[show n+1+m=(n+m)+1 by omega,shN,qzZ m n];rfl
theorem liZb(x y:Nat):(x ^^^ y) % 2=(x % 2+y % 2) % 2:=by
 have h:=Nat.testBit_xor x y 0
 simp only[Nat.testBit_zero]at h
 have hx:=Nat.mod_two_eq_zero_or_one x
 have hy:=Nat.mod_two_eq_zero_or_one y
 have hz:=Nat.mod_two_eq_zero_or_one (x ^^^ y)
 rcases hx with hx|hx<;>rcases hy with hy|hy<;>rcases hz with hz|hz<;>simp_all
theorem miZb(x y:Nat):(x ^^^ y) / 2=(x / 2) ^^^ (y / 2):=by
 apply Nat.eq_of_testBit_eq
 intro i
 rw[Nat.testBit_xor]
 simp only[Nat.testBit_div_two,Nat.testBit_xor]
theorem elZb(x y:Nat):sh (x ^^^ y)=sh x ^^^ sh y:=by
 unfold sh
 rw[liZb,miZb]
 have hx:=Nat.mod_two_eq_zero_or_one x
 have hy:=Nat.mod_two_eq_zero_or_one y
 generalize x / 2=a
 generalize y / 2=b
 have e:a ^^^ b=(a ^^^ 3988292384) ^^^ (b ^^^ 3988292384):=by
  rw[Nat.xor_assoc,<-Nat.xor_assoc 3988292384,Nat.xor_comm 3988292384 b,Nat.xor_assoc b,Nat.xor_self,Nat.xor_zero]
 rcases hx with hx|hx<;>rcases hy with hy|hy<;>simp only[hx,hy]
 ·simp
 ·simp[Nat.xor_assoc]
 ·simp only[if_true,Nat.reduceEqDiff,if_false]
  rw[Nat.xor_assoc,Nat.xor_comm b,<-Nat.xor_assoc]
 ·simp only[Nat.reduceAdd,Nat.reduceMod,if_true,Nat.reduceEqDiff,if_false]
  exact e
theorem rzZ:∀ (n x y:Nat),shN n (x ^^^ y)=shN n x ^^^ shN n y
 |0,_,_=>rfl
 |n+1,x,y=>by rw[shN,elZb,rzZ n];rfl
theorem ikZb(x:Nat):sh (2*x)=x:=by
 unfold sh
 rw[if_neg (by omega)]
 omega
theorem szZ:∀ (n x:Nat),shN n (2 ^ n*x)=x
 |0,x=>by simp[shN]
 |n+1,x=>by
  rw[shN,Nat.pow_succ,show 2 ^ n*2*x=2*(2 ^ n*x) by rw[Nat.mul_comm (2 ^ n) 2,Nat.mul_assoc],ikZb,szZ n]
theorem hjZb{x:Nat}(h:x<4294967296):sh x<4294967296:=by
 unfold sh
 split
 ·exact Nat.xor_lt_two_pow (n:=32) (by omega) (by decide)
 ·omega
theorem clZ:∀ (n:Nat) {x:Nat},x<4294967296->shN n x<4294967296
 |0,_,h=>h
 |n+1,_,h=>clZ n (hjZb h)
def tab:List Nat:= [0x00000000,0x1DB71064,0x3B6E20C8,0x26D930AC,0x76DC4190,0x6B6B51F4,0x4DB26158,0x5005713C,0xEDB88320,0xF00F9344,0xD6D6A3E8,0xCB61B38C,0x9B64C2B0,0x86D3D2D4,0xA00AE278,0xBDBDF21C]
theorem wrZ:∀i,i<16->tab.getD i 0=shN 4 i:=by decide
theorem lbZb(n a b:Nat)(hb:b<2 ^ n):2 ^ n*a+b=2 ^ n*a ^^^ b:=by
 rw[Nat.two_pow_add_eq_or_of_lt hb]
 apply Nat.eq_of_testBit_eq
 intro i
 rw[Nat.testBit_or,Nat.testBit_xor,Nat.testBit_two_pow_mul]
 by_cases hi:n<=i
 ·rw[Nat.testBit_lt_two_pow (Nat.lt_of_lt_of_le hb (Nat.pow_le_pow_right (by omega) hi))]
  simp
 ·simp[hi]
theorem four(x:Nat):shN 4 x=(x / 16) ^^^ tab.getD (x % 16) 0:=by
 have e:x=2 ^ 4*(x / 16) ^^^ (x % 16):=by
  rw[<-lbZb 4 _ _ (by omega)]
  omega
 rw[wrZ _ (by omega)]
 conv=>lhs;rw[e,rzZ,szZ]
def guZ(x c:Nat):Nat:=shN 8 (x ^^^ c)
theorem mbZb(x c:Nat):guZ x c=shN 4 (shN 4 (x ^^^ c)):=qzZ 4 4 _
def run(x:Nat)(bs:List Nat):Nat:=bs.foldl guZ x
theorem nbZb(x:Nat)(a b:List Nat):run x (a++b)=run (run x a) b:=by unfold run;rw[List.foldl_append]
theorem niZb{x c:Nat}(hx:x<4294967296)(hc:c<256):guZ x c<4294967296:=clZ 8 (Nat.xor_lt_two_pow (n:=32) hx (by omega))
theorem flZb{bs:List Nat}:∀ {x:Nat},x<4294967296->(∀c∈bs,c<256)->run x bs<4294967296:=by
 induction bs with
 |nil=>intro x hx _;exact hx
 |cons c l ih=>intro x hx h;exact ih (niZb hx (h c (by simp))) (fun d hd=>h d (by simp[hd]))
def bcZ(bs:List Nat):Nat:=4294967295-run 4294967295 bs
def more(s:Nat)(bs:List Nat):Nat:=4294967295-run (4294967295-s) bs
def tbZ(s:Nat):List Nat:= [s % 256,s / 256 % 256,s / 65536 % 256,s / 16777216 % 256]
theorem flip{x:Nat}(h:x<4294967296):4294967295-x=4294967295 ^^^ x:=by
 apply Nat.eq_of_testBit_eq
 intro i
 have e:4294967295-x=2 ^ 32-(x+1):=by omega
 rw[e,Nat.testBit_two_pow_sub_succ (by omega),Nat.testBit_xor,show 4294967295=2 ^ 32-1 by rfl,Nat.testBit_two_pow_sub_one]
 by_cases hi:i<32
 ·simp[hi]
 ·rw[Nat.testBit_lt_two_pow (x:=x) (Nat.lt_of_lt_of_le h (by have:2 ^ 32<=2 ^ i:=Nat.pow_le_pow_right (by omega) (by omega);exact this))]
  simp[hi]
theorem kmZ(s:Nat):∀c∈tbZ s,c<256:=by
 intro c hc
 simp only[tbZ,List.mem_cons,List.not_mem_nil,or_false]at hc
 rcases hc with rfl|rfl|rfl|rfl<;>omega
end Go.Proofs.YtbgoibedicbkjaaGreatDoor.Crc
namespace Go.Proofs.YtbgoibedicbkjaaGreatDoor.Crc
open Go.RowKit Mem Own Canon
def TabAt(w:World):Prop:=∀i,i<16->w.cell? ⟨0,i,none⟩=some (.int .u32 (tab.getD i 0:Nat))
theorem TabAt.lt{w:World}(h:TabAt w):0<w.heap.size:=World.block_lt_of_cell? _ _ (h 0 (by omega))
theorem TabAt.below{w w':World}{B:Nat}(h:TabAt w)(hb:Below B w w')(hB:0<B):TabAt w':=fun i hi=>(hb.cell (p:=⟨_,i,none⟩) hB).trans (h i hi)
theorem TabAt.step{w w':World}(h:TabAt w)(hb:Below w.heap.size w w'):TabAt w':=h.below hb h.lt
theorem oiZb(w:World)(P:Option Addr)(pc:Nat)(A:Option Addr)(n c:Nat)(ls:List Nat)(s:Nat)(hs:s<4294967296)(hn:ls.length=n)(hN:n<=9223372036854775807)(h8:∀x∈ls,x<=255)(ht:TabAt w)
 (hp:Row w w.heap.size P 1 1 (fun _ _=> .slice A n c))(ha:Row w w.heap.size A n 1 (mZ .u8 ls)):
 Calls Tryz.prog 146 #[.int .u32 s, .slice P 1 pc] w fun e w'=>e= .returned (.int .u32 (more s ls:Nat))/\w'=w:=by
 obtain⟨pb,po,rfl,hpb,hpc⟩:=hp (by omega)
 have p0:=hpc 0 0 (by omega) (by omega)
 simp only[Nat.zero_mul,Nat.add_zero]at p0
 obtain⟨x0,hx0⟩:∃x0,x0=4294967295-s:=⟨_,rfl⟩
 have e0:bits .xor .u32 IntKind.u32.max (s:Int)=(x0:Int):=by
  have h:=u32_xor_nat 4294967295 s (by omega) hs
  rw[show IntKind.u32.max=((4294967295:Nat):Int) by decide,h,hx0,flip hs]
 have hx0lt:x0<4294967296:=by omega
 have HX0:=hid hx0
 have HA:=hid ha
 have HT:=hid ht
 have HN:=hid hn
 have H8:=hid h8
 clear ha ht hn h8 hpc hp hx0
 unfold more
 rw[<-HX0.out]
 go_enter Tryz.func146,Tryz.ntmps146
 go_wp2_with fail
 go_loopw [5,14] (fun xv i wx=>∃ (z:Bool) (x:Nat),xv= .int .u32 x/\i= .int .i64 (if z then 1 else 0)/\Hid (x=if z then run x0 ls else x0)/\x<4294967296/\wx=w) (fun _ i _=>1-(intOf i).toNat)
 case atStart=>exact⟨false,x0,rfl,rfl,rfl,hx0lt,rfl⟩
 case round=>
  obtain⟨z,x,rfl,rfl,hx,hxlt,rfl⟩:=hrel
  cases z
  ·obtain rfl:x=x0:=hx.out
   clear hx
   go_wp2_with fail
   go_loopw [5,20] (fun xv i wx=>∃ (k x1:Nat),k<=n/\xv= .int .u32 x1/\i= .int .i64 k/\Hid (x1=run x (ls.take k))/\x1<4294967296/\wx=wr) (fun _ i _=>n-(intOf i).toNat)
   case atStart=>exact⟨0,x,by omega,rfl,rfl,rfl,hxlt,rfl⟩
   case round=>
    obtain⟨k,x1,hk,rfl,rfl,hx1,hx1lt,rfl⟩:=hrel
    by_cases hlt:k<n
    ·obtain⟨b,off,y,rfl,hb,hy,hc⟩:=kbZ HA.out HN.out hlt
     have hkl:k<ls.length:=by rw[HN.out];exact hlt
     have hy8:y<=255:=H8.out y (List.mem_of_getElem? hy)
     have hyk:run x (ls.take (k+1))=guZ x1 y:=by
      rw[List.take_add_one,hy,Option.toList,nbZb,<-hx1.out]
      rfl
     rw[mbZb]at hyk
     obtain⟨x2,hx2⟩:∃x2,x2=x1 ^^^ y:=⟨_,rfl⟩
     have hx2lt:x2<4294967296:=by rw[hx2];exact Nat.xor_lt_two_pow (n:=32) hx1lt (by omega)
     have e1:bits .xor .u32 (x1:Int) (y:Int)=(x2:Int):=by rw[u32_xor_nat x1 y hx1lt (by omega),hx2]
     obtain⟨j2,hj2⟩:∃j2,j2=x2 % 16:=⟨_,rfl⟩
     have e2:bits .and .u32 (x2:Int) 15=(j2:Int):=by rw[show(15:Int)=((15:Nat):Int) from rfl,u32_and_nat x2 15 hx2lt (by omega),hj2,show 15=2 ^ 4-1 from rfl,Nat.and_two_pow_sub_one_eq_mod]
     obtain⟨x3,hx3⟩:∃x3,x3=shN 4 x2:=⟨_,rfl⟩
     have hx3lt:x3<4294967296:=by rw[hx3];exact clZ 4 hx2lt
     have hj2lt:j2<16:=by omega
     have t2:=HT.out j2 hj2lt
     have htab2:tab.getD j2 0<4294967296:=by rw[wrZ j2 hj2lt];exact clZ 4 (by omega)
     obtain⟨d2,hd2⟩:∃d2,d2=x2 / 16:=⟨_,rfl⟩
     have e3:bits .xor .u32 (d2:Int) (tab.getD j2 0:Nat)=(x3:Int):=by
      rw[u32_xor_nat d2 _ (by omega) htab2,hx3,four,hd2,hj2]
     obtain⟨j3,hj3⟩:∃j3,j3=x3 % 16:=⟨_,rfl⟩
     have e4:bits .and .u32 (x3:Int) 15=(j3:Int):=by rw[show(15:Int)=((15:Nat):Int) from rfl,u32_and_nat x3 15 hx3lt (by omega),hj3,show 15=2 ^ 4-1 from rfl,Nat.and_two_pow_sub_one_eq_mod]
     obtain⟨x4,hx4⟩:∃x4,x4=shN 4 x3:=⟨_,rfl⟩
     have hx4lt:x4<4294967296:=by rw[hx4];exact clZ 4 hx3lt
     have hj3lt:j3<16:=by omega
     have t3:=HT.out j3 hj3lt
     have htab3:tab.getD j3 0<4294967296:=by rw[wrZ j3 hj3lt];exact clZ 4 (by omega)
     obtain⟨d3,hd3⟩:∃d3,d3=x3 / 16:=⟨_,rfl⟩
     have e5:bits .xor .u32 (d3:Int) (tab.getD j3 0:Nat)=(x4:Int):=by
      rw[u32_xor_nat d3 _ (by omega) htab3,hx4,four,hd3,hj3]
     have q2:((x2:Int) / 16)=(d2:Int):=by omega
     have q3:((x3:Int) / 16)=(d3:Int):=by omega
     have s1:IntKind.u32.wrap (y:Int)=(y:Int):=by rw[IntKind.wrap_u32'];omega
     have s2:IntKind.u32.wrap (d2:Int)=(d2:Int):=by rw[IntKind.wrap_u32'];omega
     have s3:IntKind.u32.wrap (d3:Int)=(d3:Int):=by rw[IntKind.wrap_u32'];omega
     rw[<-hx2,<-hx3,<-hx4]at hyk
     generalize tab.getD j2 0=u2 at *
     generalize tab.getD j3 0=u3 at *
     have HY:=hid hyk
     have y0:(0:Int)<=(k:Int):=by omega
     have y1:(k:Int)<(n:Int):=by omega
     have y2:(0:Int)<=(j2:Int):=by omega
     have y3:(j2:Int)<16:=by omega
     have y4:(0:Int)<=(j3:Int):=by omega
     have y5:(j3:Int)<16:=by omega
     clear hyk hx2 hx3 hx4 hj2 hj3 hd2 hd3 hy hkl hx1 e0
     go_wp2_with fail
     go_roundw
     case measure=>go_light;simp[intOf];omega
     case rel=>go_light;exact⟨k+1,x4,by omega,by first|rfl|trivial,by go_num,HY.out.symm,hx4lt,by first|rfl|trivial⟩
    ·obtain rfl:k=n:=by omega
     have h:=hx1.out
     rw[List.take_of_length_le (by rw[HN.out];exact Nat.le_refl _)]at h
     have HR:=hid h
     clear h hx1 e0
     go_wp2_with fail
     go_roundw
     case measure=>go_light;simp[intOf]
     case rel=>go_light;exact⟨true,x1,by first|rfl|trivial,by first|rfl|trivial,HR.out,hx1lt,by first|rfl|trivial⟩
  ·have h:=hx.out
   simp only[if_true]at h
   have hr:run x0 ls<4294967296:=by rw[<-h];exact hxlt
   have e9:bits .xor .u32 IntKind.u32.max (x:Int)=((4294967295-x:Nat):Int):=by
    have h:=u32_xor_nat 4294967295 x (by omega) hxlt
    rw[show IntKind.u32.max=((4294967295:Nat):Int) by decide,h,flip hxlt]
   have HR:=hid h
   clear h hx hr e0
   go_wp2_with fail
   go_ret
   exact⟨giZ (by rw[<-HR.out]),rfl⟩
theorem sum_any(w:World)(A:Option Addr)(n c:Nat)(ls:List Nat)(hn:ls.length=n)(hN:n<=9223372036854775807)(h8:∀x∈ls,x<=255)(ht:TabAt w)(ha:Row w w.heap.size A n 1 (mZ .u8 ls)):
 Calls Tryz.prog 100 #[.slice A n c] w fun e w'=>e= .returned (.int .u32 (bcZ ls:Nat))/\Below w.heap.size w w':=by
 have hb:Below w.heap.size w (w.alloc (.cells #[.slice A n c] 22)):=aZ (Below.refl _ _)
 have D:=oiZb (w.alloc (.cells #[.slice A n c] 22)) (some ⟨w.heap.size,0,none⟩) 1 A n c ls 0 (by omega) hn hN h8 (ht.step hb)
  (Row.of_blk (Blk.made _ _ _) (by simp) (fun i j hi hj=>match i,j,hi,hj with|0,0,_,_=>rfl)) ((ha.below hb).mono hb.size)
 have D:=hid D
 clear ha ht h8 hn
 go_enter Tryz.func100,Tryz.ntmps100
 go_wp2_with fail
 refine D.out.mono ?_
 rintro e w1 ⟨rfl,rfl⟩
 go_wp2_with fail
 go_ret
 exact⟨rfl,hb⟩
theorem voZ(s:Nat):(tbZ s).length=4:=rfl
def lmZ(s:Nat)(w:World)(e:Ending)(w':World):Prop:=
 ∃g,e= .returned (.slice (some ⟨g,0,none⟩) 4 4)/\w.heap.size<=g/\Blk w' g 5 (cZ .u8 (tbZ s)).toArray/\Below w.heap.size w w'
theorem twZ(w:World)(s:Nat)(hs:s<4294967296):Calls Tryz.prog 99 #[.int .u32 s] w (lmZ s w):=by
 obtain⟨d1,hd1⟩:∃d1,d1=s / 256:=⟨_,rfl⟩
 obtain⟨d2,hd2⟩:∃d2,d2=s / 65536:=⟨_,rfl⟩
 obtain⟨d3,hd3⟩:∃d3,d3=s / 16777216:=⟨_,rfl⟩
 obtain⟨b0,hb0⟩:∃b0,b0=s % 256:=⟨_,rfl⟩
 obtain⟨b1,hb1⟩:∃b1,b1=d1 % 256:=⟨_,rfl⟩
 obtain⟨b2,hb2⟩:∃b2,b2=d2 % 256:=⟨_,rfl⟩
 obtain⟨b3,hb3⟩:∃b3,b3=d3 % 256:=⟨_,rfl⟩
 have ht:tbZ s= [b0,b1,b2,b3]:=by rw[hb0,hb1,hb2,hb3,hd1,hd2,hd3];rfl
 have q1:((s:Int) / 256)=(d1:Int):=by omega
 have q2:((s:Int) / 65536)=(d2:Int):=by omega
 have q3:((s:Int) / 16777216)=(d3:Int):=by omega
 have s1:IntKind.u32.wrap (d1:Int)=(d1:Int):=by rw[IntKind.wrap_u32'];omega
 have s2:IntKind.u32.wrap (d2:Int)=(d2:Int):=by rw[IntKind.wrap_u32'];omega
 have s3:IntKind.u32.wrap (d3:Int)=(d3:Int):=by rw[IntKind.wrap_u32'];omega
 have r0:IntKind.u8.wrap (s:Int)=(b0:Int):=by rw[IntKind.wrap_u8'];omega
 have r1:IntKind.u8.wrap (d1:Int)=(b1:Int):=by rw[IntKind.wrap_u8'];omega
 have r2:IntKind.u8.wrap (d2:Int)=(b2:Int):=by rw[IntKind.wrap_u8'];omega
 have r3:IntKind.u8.wrap (d3:Int)=(b3:Int):=by rw[IntKind.wrap_u8'];omega
 unfold lmZ
 rw[ht]
 clear hd1 hd2 hd3 hb0 hb1 hb2 hb3 ht hs
 go_enter Tryz.func99,Tryz.ntmps99
 go_wp2_with fail
 go_ret
 exact⟨w.heap.size,rfl,Nat.le_refl _,Blk.made _ _ _,aZ (Below.refl _ _)⟩
def ceZ(ls:List Nat)(w:World)(e:Ending)(w':World):Prop:=
 ∃v,e= .returned v/\w'.ownsRow w.heap.size 5 1 v (ls.length+4) (cZ .u8 (ls++tbZ (bcZ ls)))/\Below w.heap.size w w'
theorem woZ(k:IntKind)(a b:List Nat):cZ k (a++b)=cZ k a++cZ k b:=by simp[cZ]
theorem put_any(w:World)(A:Option Addr)(n c:Nat)(ls:List Nat)(hn:ls.length=n)(hle:n<=100000)(hnil:A=none->n=0/\c=0)(h8:∀x∈ls,x<=255)(ht:TabAt w)(ha:Row w w.heap.size A n 1 (mZ .u8 ls)):
 Calls Tryz.prog 53 #[.slice A n c] w (ceZ ls w):=by
 obtain⟨j0,hj0,hy0,hy1,hy2⟩:=info_parts acZ
 have D1:=hid (mgZ w A n c ls hn hle hnil ha)
 have D2:=fun(wx:World) (h:Below w.heap.size w wx)=>sum_any wx A n c ls hn (by omega) h8 (ht.step h) ((ha.below h).mono h.size)
 have D2:=hid D2
 have hsl:bcZ ls<4294967296:=by unfold bcZ;omega
 have D3:=hid (fun wx=>twZ wx (bcZ ls) hsl)
 have htl:=voZ (bcZ ls)
 unfold ceZ
 rw[woZ,hn]
 unfold lmZ at D3
 generalize bcZ ls=s at *
 have HT:=hid htl
 clear hn hnil h8 ht ha htl
 go_enter Tryz.func53,Tryz.ntmps53
 go_wp2_with fail
 refine D1.out.mono ?_
 rintro e w1 ⟨v1,rfl,hown1,hb1⟩
 obtain⟨A1,c1,rfl⟩:=bZ hown1
 have HO1:=hid hown1
 have HB1:=hid hb1
 clear hown1 hb1 D1
 go_wp2_with fail
 refine(D2.out _ HB1.out).mono ?_
 rintro e w2 ⟨rfl,hb2⟩
 have HO2:=hid (eZ HO1.out (fun x hx=>hb2.block x (World.ownsRow.lt HO1.out x hx).2))
 have HB2:Hid (Below w.heap.size w w2):=HB1.out.trans (hb2.mono HB1.out.size)
 clear hb2 HB1 HO1 D2
 go_wp2_with fail
 refine(D3.out _).mono ?_
 rintro e w3 ⟨g,rfl,hg,hblk,hb3⟩
 have HO3:=hid (eZ HO2.out (fun x hx=>hb3.block x (World.ownsRow.lt HO2.out x hx).2))
 have HB3:Hid (Below w.heap.size w w3):=HB2.out.trans (hb3.mono HB2.out.size)
 have hsz:=HB3.out.size
 have HK:=hid hblk
 clear hb3 HB2 HO2 D3 hblk
 go_wp2_with(at_builtin;refine kZ rfl (.tmp 4) (.tmp 7) 22 rfl w.heap.size 5 j0 _ 1 1 Tryz.underlying22 hj0 hy0 hy1 hy2 rfl (by decide) _ _ _ (by rfl) HO3.out _ 4 4 (cZ .u8 (tbZ s)) (by rfl) (by simpa using Src.of_blk HK.out 4 4 1 (by rw[List.size_toArray,uoZ,HT.out])) (wZ _ _) (by unfold maxLen;omega) (by omega) (by omega) ?_;intro v4 w4 hown4 hg4 hat4)
 go_ret
 exact⟨_,rfl,hown4,HB3.out.grown hg4 (by omega) (fun y hy=>(World.ownsRow.lt HO3.out y hy).1)⟩
end Go.Proofs.YtbgoibedicbkjaaGreatDoor.Crc
namespace Go.Proofs.YtbgoibedicbkjaaGreatDoor.Crc
open Go.RowKit Mem Own Canon
theorem piZb{w:World}{B n m s:Nat}{A:Option Addr}{f:Nat->Nat->Value}(h:Row w B A n s f)(hm:m<=n):Row w B A m s f:=fun h0=>by
 obtain⟨b,off,e,hb,hc⟩:=h (by omega)
 exact⟨b,off,e,hb,fun i j hi hj=>hc i j (by omega) hj⟩
theorem weZb{ls:List Nat}{m i:Nat}(h:i<m):(ls.take m).getD i 0=ls.getD i 0:=by
 rw[List.getD_eq_getElem?_getD,List.getElem?_take_of_lt h,<-List.getD_eq_getElem?_getD]
theorem hbZ{w:World}{B n m:Nat}{A:Option Addr}{k:IntKind}{ls:List Nat}(h:Row w B A n 1 (mZ k ls))(hm:m<=n):Row w B A m 1 (mZ k (ls.take m)):=
 (piZb h hm).congr fun i j hi _=>by unfold mZ;rw[weZb hi]
theorem uZ{w:World}{B n m c:Nat}{A:Option Addr}{k:IntKind}{ls:List Nat}(h:Row w B A n 1 (mZ k ls))(hm:m<=n)(hc:n<=c):Row w B (sZ A m c 1) (n-m) 1 (mZ k (ls.drop m)):=
 h.cut m (n-m) (by omega) hc fun i j _ _=>by
  unfold mZ
  rw[List.getD_eq_getElem?_getD,List.getD_eq_getElem?_getD,List.getElem?_drop]
theorem fcZ{P:Program}{t e:TypeId}{s:Nat}(ht:P.underlying t=some (.slice e))(hs:∀w,(sizeOf e).run P w= .ok s w)(A:Option Addr)(len cap:Nat)(kh:IntKind)(h:Int)(m:Nat)(hh:h=m)(hm:m<=cap)(hA:∀a,A=some a->a.add 0=a)(w:World):
 (Instr.slice t (.slice A len cap) none (some (.int kh h)) none).run P w= .ok (.slice A m cap) w:=by
 subst hh
 have he:P.elem t=e:=by simp[Program.elem,ht]
 rw[run_slice_h w t A len cap (by rw[he];exact ht) kh (m:Int) (by omega) (by omega),he,hs]
 cases A with
 |none=>simp[Result.andThen,sliced]
 |some a=>simp[Result.andThen,sliced,hA a rfl]
theorem jkZb{la lb:List Nat}{k:Nat}(h:k<la.length)(h':k<lb.length):decide (la.drop k=lb.drop k)=(decide (la.getD k 0=lb.getD k 0)&&decide (la.drop (k+1)=lb.drop (k+1))):=by
 rw[List.getD_eq_getElem?_getD,List.getD_eq_getElem?_getD,List.getElem?_eq_getElem h,List.getElem?_eq_getElem h',Option.getD_some,Option.getD_some,Bool.eq_iff_iff,Bool.and_eq_true,decide_eq_true_eq,decide_eq_true_eq,decide_eq_true_eq,List.drop_eq_getElem_cons h,List.drop_eq_getElem_cons h',List.cons.injEq]
theorem xeZb(w:World)(A B:Option Addr)(n c d:Nat)(la lb:List Nat)(hn:la.length=n)(hm:lb.length=n)(hN:n<=9223372036854775807)(ha:Row w w.heap.size A n 1 (mZ .u8 la))(hb:Row w w.heap.size B n 1 (mZ .u8 lb)):
 Calls Tryz.prog 113 #[.slice A n c, .slice B n d] w fun e w'=>e= .returned (.bool (decide (la=lb)))/\Below w.heap.size w w':=by
 have HA:=hid ha
 have HB:=hid hb
 have HN:=hid hn
 have HM:=hid hm
 clear ha hb hn hm
 go_enter Tryz.func113,Tryz.ntmps113
 go_wp2_with fail
 go_loopw [13] (fun i wx=>∃k:Nat,k<=n/\i= .int .i64 k/\Hid (decide (la.drop k=lb.drop k)=decide (la=lb))/\Hid (Below w.heap.size w wx)) (fun i _=>n-(intOf i).toNat)
 case atStart=>exact⟨0,by omega,rfl,rfl,Below.refl _ _⟩
 case round=>
  obtain⟨k,hk,rfl,hE,hbel⟩:=hrel
  by_cases hlt:k<n
  ·obtain⟨b1,o1,x1,rfl,hb1,hx1,hc1⟩:=kbZ (HA.out.below hbel.out) HN.out hlt
   obtain⟨b2,o2,x2,rfl,hb2,hx2,hc2⟩:=kbZ (HB.out.below hbel.out) HM.out hlt
   have he:=hE.out
   rw[jkZb (by rw[HN.out];exact hlt) (by rw[HM.out];exact hlt),List.getD_eq_getElem?_getD,List.getD_eq_getElem?_getD,hx1,hx2]at he
   simp only[Option.getD_some]at he
   have y0:(0:Int)<=(k:Int):=by omega
   have y1:(k:Int)<(n:Int):=by omega
   clear hx1 hx2 hE
   by_cases hxx:x1=x2
   ·subst hxx
    rw[decide_eq_true rfl,Bool.true_and]at he
    have HE:=hid he
    have e1:((x1:Int) != (x1:Int))=false:=by simp
    clear he
    go_wp2_with fail
    go_quiet (fail)
    go_wp2_with fail
    go_roundw
    case measure=>go_light;simp[intOf];omega
    case rel=>go_light;exact⟨k+1,by omega,by go_num,HE.out,below_drewN hbel.out _⟩
   ·rw[decide_eq_false hxx,Bool.false_and]at he
    have HE:=hid he
    have e1:((x1:Int) != (x2:Int))=true:=by simp;omega
    clear he hxx
    go_wp2_with fail
    go_quiet (fail)
    go_wp2_with fail
    go_ret
    exact⟨bpZ HE.out,below_drewN hbel.out _⟩
  ·obtain rfl:k=n:=by omega
   have he:=hE.out
   rw[List.drop_of_length_le (by rw[HN.out];exact Nat.le_refl _),List.drop_of_length_le (by rw[HM.out];exact Nat.le_refl _)]at he
   have HE:=hid he
   clear he hE
   go_wp2_with fail
   go_ret
   exact⟨bpZ (by rw[<-HE.out];rfl),hbel.out⟩
def icZ(ls:List Nat):Int:=if ls.length<4 then 1 else if ls.drop (ls.length-4)=tbZ (bcZ (ls.take (ls.length-4)))then 0 else 5
def xZ(ls:List Nat):List Nat:=if icZ ls=0 then ls.take (ls.length-4)else []
def deZ(ls:List Nat)(w:World)(e:Ending)(w':World):Prop:=
 ∃v,e= .returned (.tuple #[v, .int .i64 (icZ ls)])/\w'.ownsRow w.heap.size 5 1 v (xZ ls).length (cZ .u8 (xZ ls))/\Below w.heap.size w w'
theorem dlZ(w:World)(A:Option Addr)(n c:Nat)(ls:List Nat)(hn:ls.length=n)(hle:n<=100000)(hc:n<=c)(h8:∀x∈ls,x<=255)(ht:TabAt w)(ha:Row w w.heap.size A n 1 (mZ .u8 ls)):
 Calls Tryz.prog 65 #[.slice A n c] w (deZ ls w):=by
 unfold deZ
 by_cases h4:n<4
 ·have hE:icZ ls=1:=by unfold icZ;rw[if_pos (by omega)]
  have hO:xZ ls= []:=by unfold xZ;rw[hE];rfl
  rw[hE,hO]
  have s1:IntKind.i64.wrap ((n:Int)-4)=(n:Int)-4:=by rw[IntWalk.i64_in _ (by omega)]
  have g1:decide ((n:Int)-4<0)=true:=by simp;omega
  clear ha ht h8 hn hE hO
  go_enter Tryz.func65,Tryz.ntmps65
  go_wp2_with fail
  go_ret2
  exact⟨_,rfl,World.ownsRow_nil _ _ _ _,Below.refl _ _⟩
 ·obtain⟨m,rfl⟩:∃m,n=m+4:=⟨n-4,by omega⟩
  obtain⟨ab,ao,rfl,hab,hac⟩:=ha (by omega)
  have hm4:ls.length-4=m:=by omega
  have s1:IntKind.i64.wrap ((((m+4:Nat)):Int)-4)=(m:Int):=by rw[IntWalk.i64_in _ (by omega)];omega
  have g1:decide ((m:Int)<0)=false:=by simp
  have hb:=hbZ ha (show m<=m+4 by omega)
  have hd:=uZ ha (show m<=m+4 by omega) hc
  rw[show m+4-m=4 by omega]at hd
  have hlb:(ls.take m).length=m:=by rw[List.length_take];omega
  have hld:(ls.drop m).length=4:=by rw[List.length_drop];omega
  have h8b:∀x∈ls.take m,x<=255:=fun x hx=>h8 x (List.mem_of_mem_take hx)
  have hsl:bcZ (ls.take m)<4294967296:=by unfold bcZ;omega
  have k1:=fun wx=>vcZ (P:=Tryz.prog) (t:=22) (s:=1) Tryz.underlying22 (fun _=>by kernel_rfl) (some ⟨ab,ao,none⟩) (m+4) c .i64 (m:Int) m rfl (by omega) wx
  have k2:=fun wx=>fcZ (P:=Tryz.prog) (t:=22) (s:=1) Tryz.underlying22 (fun _=>by kernel_rfl) (some ⟨ab,ao,none⟩) (m+4) c .i64 (m:Int) m rfl (by omega) (fun a ha=>by injection ha with ha;subst ha;exact cdZ ab ao 0) wx
  rw[show m+4-m=4 by omega]at k1
  have D1:=hid (fun(wx:World) (h:Below w.heap.size w wx)=>sum_any wx (some ⟨ab,ao,none⟩) m c (ls.take m) hlb (by omega) h8b (ht.step h) ((hb.below h).mono h.size))
  have D2:=hid (fun wx=>twZ wx (bcZ (ls.take m)) hsl)
  have htl:=voZ (bcZ (ls.take m))
  unfold lmZ at D2
  have hE:icZ ls=if ls.drop m=tbZ (bcZ (ls.take m))then 0 else 5:=by unfold icZ;rw[if_neg (by omega),hm4]
  have hO:xZ ls=if icZ ls=0 then ls.take m else []:=by unfold xZ;rw[hm4]
  generalize sZ (some ⟨ab,ao,none⟩) m c 1=A1 at *
  have D3:Hid (∀ (wx:World) g,Below w.heap.size w wx->Blk wx g 5 (cZ .u8 (tbZ (bcZ (ls.take m)))).toArray->Calls Tryz.prog 113 #[.slice A1 4 (c-m), .slice (some ⟨g,0,none⟩) 4 4] wx fun e w'=>e= .returned (.bool (decide (ls.drop m=tbZ (bcZ (ls.take m)))))/\Below wx.heap.size wx w'):=by
   intro wx g h hg
   refine xeZb wx A1 (some ⟨g,0,none⟩) 4 (c-m) 4 _ _ hld htl (by omega) ((hd.below h).mono h.size) (Row.of_blk hg hg.lt fun i j hi hj=> ?_)
   obtain rfl:j=0:=by omega
   rw[Nat.mul_one,Nat.add_zero]
   simp[cZ,mZ,List.getD_eq_getElem?_getD,List.getElem?_eq_getElem (show i<(tbZ (bcZ (ls.take m))).length by omega)]
  have D4:=hid (fun(wx:World) (h:Below w.heap.size w wx)=>mgZ wx (some ⟨ab,ao,none⟩) m c (ls.take m) hlb (by omega) (fun h=>by cases h) ((hb.below h).mono h.size))
  generalize bcZ (ls.take m)=s at *
  clear ha hac hb hd h8 ht h8b h4 hm4 hn
  have HLB:=hid hlb
  clear hlb hld htl
  by_cases heq:ls.drop m=tbZ s
  ·rw[if_pos heq]at hE
   rw[hE,if_pos rfl]at hO
   rw[hE,hO,HLB.out]
   rw[decide_eq_true heq]at D3
   clear heq hE hO
   go_enter Tryz.func65,Tryz.ntmps65
   go_upto_region 4 with fail
   go_region_held3 (fun _=>True) (trivial) (first|(go_at_call 100;(with_reducible refine(D1.out _ (by(repeat(first|(with_reducible first|exact Below.refl _ _|assumption|refine Below.drew ?_|refine below_drewN ?_ _|refine aZ ?_|refine dZ (by assumption) ?_)|((with_reducible first|refine fZ ?_ ?_|refine gZ ?_ ?_|refine iZ (by assumption) ?_ ?_);(focus(first|(simp;done)|(simp;omega)|omega|(simp at *;omega)))))))).mono ?_);rintro e w1 ⟨rfl,hb1⟩)|(go_at_call 99;(with_reducible refine(D2.out _).mono ?_);rintro e w2 ⟨g,rfl,hg,hblk,hb2⟩)|(go_at_call 113;(with_reducible refine(D3.out _ _ (by(repeat(first|(with_reducible first|exact Below.refl _ _|assumption|refine Below.drew ?_|refine below_drewN ?_ _|refine aZ ?_|refine dZ (by assumption) ?_)|((with_reducible first|refine fZ ?_ ?_|refine gZ ?_ ?_|refine iZ (by assumption) ?_ ?_);(focus(first|(simp;done)|(simp;omega)|omega|(simp at *;omega))))))) (by assumption)).mono ?_);rintro e w3 ⟨rfl,hb3⟩))
   have hbb:Below w.heap.size w w3:=by(repeat(first|(with_reducible first|exact Below.refl _ _|assumption|refine Below.drew ?_|refine below_drewN ?_ _|refine aZ ?_|refine dZ (by assumption) ?_)|((with_reducible first|refine fZ ?_ ?_|refine gZ ?_ ?_|refine iZ (by assumption) ?_ ?_);(focus(first|(simp;done)|(simp;omega)|omega|(simp at *;omega))))))
   have HB:=hid hbb
   clear hb1 hb2 hb3 hbb hblk D1 D2 D3
   go_wp2_with fail
   refine(D4.out _ HB.out).mono ?_
   rintro e w4 ⟨v,rfl,hown,hb4⟩
   go_wp2_with fail
   go_ret2
   exact⟨_,rfl,lZ hown HB.out.size,HB.out.trans (hb4.mono HB.out.size)⟩
  ·rw[if_neg heq]at hE
   rw[hE,if_neg (by omega)]at hO
   rw[hE,hO]
   rw[decide_eq_false heq]at D3
   clear heq hE hO
   go_enter Tryz.func65,Tryz.ntmps65
   go_upto_region 4 with fail
   go_region_held3 (fun _=>True) (trivial) (first|(go_at_call 100;(with_reducible refine(D1.out _ (by(repeat(first|(with_reducible first|exact Below.refl _ _|assumption|refine Below.drew ?_|refine below_drewN ?_ _|refine aZ ?_|refine dZ (by assumption) ?_)|((with_reducible first|refine fZ ?_ ?_|refine gZ ?_ ?_|refine iZ (by assumption) ?_ ?_);(focus(first|(simp;done)|(simp;omega)|omega|(simp at *;omega)))))))).mono ?_);rintro e w1 ⟨rfl,hb1⟩)|(go_at_call 99;(with_reducible refine(D2.out _).mono ?_);rintro e w2 ⟨g,rfl,hg,hblk,hb2⟩)|(go_at_call 113;(with_reducible refine(D3.out _ _ (by(repeat(first|(with_reducible first|exact Below.refl _ _|assumption|refine Below.drew ?_|refine below_drewN ?_ _|refine aZ ?_|refine dZ (by assumption) ?_)|((with_reducible first|refine fZ ?_ ?_|refine gZ ?_ ?_|refine iZ (by assumption) ?_ ?_);(focus(first|(simp;done)|(simp;omega)|omega|(simp at *;omega))))))) (by assumption)).mono ?_);rintro e w3 ⟨rfl,hb3⟩))
   have hbb:Below w.heap.size w w3:=by(repeat(first|(with_reducible first|exact Below.refl _ _|assumption|refine Below.drew ?_|refine below_drewN ?_ _|refine aZ ?_|refine dZ (by assumption) ?_)|((with_reducible first|refine fZ ?_ ?_|refine gZ ?_ ?_|refine iZ (by assumption) ?_ ?_);(focus(first|(simp;done)|(simp;omega)|omega|(simp at *;omega))))))
   have HB:=hid hbb
   clear hb1 hb2 hb3 hbb hblk D1 D2 D3
   go_wp2_with fail
   go_ret2
   exact⟨_,rfl,World.ownsRow_nil _ _ _ _,HB.out⟩
end Go.Proofs.YtbgoibedicbkjaaGreatDoor.Crc
namespace Go.Proofs.YtbgoibedicbkjaaGreatDoor.Crc
open Go.RowKit Mem Own Canon
theorem qiZb(w:World)(x:Nat)(hx:x<4294967296):Calls Tryz.prog 220 #[.int .u32 x] w fun e w'=>e= .returned (.int .u32 (sh x:Nat))/\w'=w:=by
 have e0:bits .xor .u32 ((x / 2:Nat):Int) 3988292384=(((x / 2) ^^^ 3988292384:Nat):Int):=by
  have h:=u32_xor_nat (x / 2) 3988292384 (by omega) (by omega)
  exact h
 have c0:((x:Int) / 2)=((x / 2:Nat):Int):=by omega
 by_cases h2:x % 2=1
 ·have g1:((x:Int) % 2==1)=true:=by rw[beq_iff_eq];omega
  have hs:sh x=(x / 2) ^^^ 3988292384:=if_pos h2
  rw[hs]
  rw[<-c0]at e0
  generalize (x / 2) ^^^ 3988292384=y at *
  clear hs c0 h2
  go_enter Tryz.func220,Tryz.ntmps220
  go_wp2_with fail
  go_ret
  exact⟨rfl,rfl⟩
 ·have g1:((x:Int) % 2==1)=false:=by rw[beq_eq_false_iff_ne];omega
  have hs:sh x=x / 2:=if_neg h2
  rw[hs]
  clear hs e0 h2 c0
  go_enter Tryz.func220,Tryz.ntmps220
  go_wp2_with fail
  go_ret
  exact⟨by simp,rfl⟩
theorem yeZb(w:World)(s:Nat)(hs:s<4294967296)(A:Option Addr)(n c:Nat)(ls:List Nat)(hn:ls.length=n)(hle:n<=1000000)(h8:∀x∈ls,x<=255)(ha:Row w w.heap.size A n 1 (mZ .u8 ls)):
 Calls Tryz.prog 186 #[.int .u32 s, .slice A n c] w fun e w'=>e= .returned (.int .u32 (more s ls:Nat))/\Below w.heap.size w w':=by
 have e0:IntKind.u32.wrap (4294967295-(s:Int))=((4294967295-s:Nat):Int):=by rw[IntKind.wrap_u32'];omega
 obtain⟨R,hR⟩:∃R,R=run (4294967295-s) ls:=⟨_,rfl⟩
 have hRl:R<4294967296:=by rw[hR];exact flZb (by omega) (fun c hc=>by have:=h8 c hc;omega)
 have hm:more s ls=4294967295-R:=by unfold more;rw[hR]
 rw[hm]
 have HR0:Hid (run (4294967295-s) (ls.drop 0)=R):=hR.symm
 have HA:Hid (∀i,i<n->∃b off,A=some ⟨b,off,none⟩/\w.cell? ⟨b,off+i,none⟩=some (.int .u8 (ls.getD i 0:Nat))/\b<w.heap.size/\ls.getD i 0<=255/\ls.drop i=ls.getD i 0 :: ls.drop (i+1)):=fun i hi=>by
  obtain⟨b,off,rfl,hbl,hc⟩:=ha (by omega)
  have:=hc i 0 hi (by omega)
  simp only[mZ,Nat.mul_one,Nat.add_zero]at this
  have hg:ls.getD i 0=ls[i]:=by rw[List.getD_eq_getElem?_getD,List.getElem?_eq_getElem (by omega)];rfl
  exact⟨b,off,rfl,this,hbl,by rw[hg];exact h8 _ (List.getElem_mem (by omega)),by rw[hg];exact List.drop_eq_getElem_cons (by omega)⟩
 have HE:Hid (ls.drop n= []):=List.drop_eq_nil_of_le (by omega)
 have B:=fun(w:World) (x:Nat) (hx:x<4294967296)=>qiZb w x hx
 have HB:=hid B
 obtain⟨x0,hx0⟩:∃x0,x0=4294967295-s:=⟨_,rfl⟩
 have hx0l:x0<4294967296:=by omega
 rw[<-hx0]at e0 HR0
 clear hR hm h8 ha hn B hx0
 go_enter Tryz.func186,Tryz.ntmps186
 go_wp2_with fail
 go_loopw [5,6] (fun u v wr=>∃x i:Nat,u= .int .u32 x/\v= .int .i64 i/\x<4294967296/\i<=n/\Hid (run x (ls.drop i)=R)/\wr=w) (fun _ v _=>n-(intOf v).toNat)
 case atStart=>exact⟨x0,0,rfl,rfl,hx0l,by omega,HR0.out,rfl⟩
 case round=>
  obtain⟨x,i,rfl,rfl,hx,hi,HR,rfl⟩:=hrel
  clear HR0
  by_cases hlt:i<n
  ·obtain⟨b,off,rfl,hc,hbl,hl8,hd⟩:=HA.out i hlt
   have g1:decide ((i:Int)<(n:Int))=true:=by simp;omega
   have g1':decide (i<n)=true:=by simp;omega
   have y0:(0:Int)<=(i:Int):=by omega
   have y1:(i:Int)<(n:Int):=by omega
   have s2:IntKind.i64.wrap ((i:Int)+1)=((i+1:Nat):Int):=by rw[IntWalk.i64_in _ (by omega)];omega
   have HR2:Hid (run (shN 8 (x ^^^ ls.getD i 0)) (ls.drop (i+1))=R):=by have h:=HR.out;rw[hd]at h;exact h
   generalize ls.getD i 0=y at *
   have e1:bits .xor .u32 (x:Int) (y:Int)=((x ^^^ y:Nat):Int):=u32_xor_nat x y hx (by omega)
   have e2:IntKind.u32.wrap (y:Int)=(y:Int):=by rw[IntKind.wrap_u32'];omega
   have hxy:x ^^^ y<4294967296:=Nat.xor_lt_two_pow (n:=32) hx (by omega)
   generalize x ^^^ y=z at *
   clear hd HR
   obtain⟨w0,rfl⟩:∃w0:World,w0=wr:=⟨_,rfl⟩
   go_wp2_with fail
   go_loopw [5,7] (fun u v wr=>∃a k:Nat,u= .int .u32 a/\v= .int .i64 k/\a<4294967296/\k<=8/\Hid (shN (8-k) a=shN 8 z)/\wr=w0) (fun _ v _=>8-(intOf v).toNat)
   case atStart=>exact⟨z,0,rfl,rfl,hxy,by omega,by exact(rfl:shN 8 z=shN 8 z),rfl⟩
   case round=>
    obtain⟨a,k,rfl,rfl,hal,hk,HS,rfl⟩:=hrel
    by_cases h8:k<8
    ·have g2:decide ((k:Int)<8)=true:=by simp;omega
     have g2':decide (k<8)=true:=by simp;omega
     have s3:IntKind.i64.wrap ((k:Int)+1)=((k+1:Nat):Int):=by rw[IntWalk.i64_in _ (by omega)];omega
     have HS2:Hid (shN (8-(k+1)) (sh a)=shN 8 z):=by
      have h:=HS.out
      rw[show 8-k=(8-(k+1))+1 by omega]at h
      exact h
     have hsl:=hjZb hal
     have HB1:=hid (HB.out wr a hal)
     generalize sh a=a' at *
     clear HS
     go_wp2_with fail
     refine HB1.out.mono ?_
     rintro e w9 ⟨rfl,rfl⟩
     clear HB1
     go_wp2_with fail
     go_roundw
     case measure=>go_light;simp[intOf];omega
     case rel=>go_light;exact⟨a',k+1,rfl,rfl,hsl,by omega,HS2.out,trivial⟩
    ·obtain rfl:k=8:=by omega
     have HS2:Hid (a=shN 8 z):=HS.out
     have HR3:Hid (run a (ls.drop (i+1))=R):=by rw[HS2.out];exact HR2.out
     clear HS HR2 HS2
     go_wp2_with fail
     go_roundw
     case measure=>go_light;simp[intOf];omega
     case rel=>go_light;exact⟨a,i+1,rfl,rfl,hal,by omega,HR3.out,trivial⟩
  ·obtain rfl:i=n:=by omega
   have hxr:Hid (x=R):=by have h:=HR.out;rw[HE.out]at h;exact h
   have e1:IntKind.u32.wrap (4294967295-(x:Int))=((4294967295-x:Nat):Int):=by rw[IntKind.wrap_u32'];omega
   have g1:decide ((i:Int)<(i:Int))=false:=by simp
   have g1':decide (i<i)=false:=by simp
   go_wp2_with fail
   go_ret
   exact⟨by rw[<-hxr.out];first|rfl|simp,Below.refl _ _⟩
theorem riZb(w:World)(A:Option Addr)(n c:Nat)(ls:List Nat)(hn:ls.length=n)(hle:n<=1000000)(h8:∀x∈ls,x<=255)(ha:Row w w.heap.size A n 1 (mZ .u8 ls)):
 Calls Tryz.prog 136 #[.slice A n c] w fun e w'=>e= .returned (.int .u32 (bcZ ls:Nat))/\Below w.heap.size w w':=by
 have D:=hid (yeZb w 0 (by omega) A n c ls hn hle h8 ha)
 have hm:more 0 ls=bcZ ls:=rfl
 rw[hm]at D
 clear hn h8 ha hm
 go_enter Tryz.func136,Tryz.ntmps136
 go_wp2_with fail
 refine D.out.mono ?_
 rintro e w1 ⟨rfl,hb⟩
 go_wp2_with fail
 go_ret
 exact⟨rfl,hb⟩
def ljZ(s:Nat):Nat->List Nat
 |0=> []
 |k+1=>s % 256 :: ljZ (s / 256) k
theorem obZb{s:Nat}:ljZ s 4=tbZ s:=by
 simp[ljZ,tbZ,Nat.div_div_eq_div_mul]
theorem gkZ(w:World)(A:Option Addr)(n c:Nat)(ls:List Nat)(hn:ls.length=n)(hle:n<=1000000)(hnil:A=none->n=0/\c=0)(h8:∀x∈ls,x<=255)(ha:Row w w.heap.size A n 1 (mZ .u8 ls)):
 Calls Tryz.prog 81 #[.slice A n c] w (ceZ ls w):=by
 obtain⟨j0,hj0,hy0,hy1,hy2⟩:=info_parts acZ
 have D:=hid (riZb w A n c ls hn hle h8 ha)
 have hsl:bcZ ls<4294967296:=by unfold bcZ;omega
 unfold ceZ
 rw[<-obZb]
 generalize bcZ ls=s at *
 have HSRC:Hid (∀wx,Below w.heap.size w wx->Src wx A n c 1 (cZ .u8 ls)):=fun wx hb=>ugZ ((ha.below hb).mono hb.size) hn hnil
 have HN:=hid hn
 obtain⟨R,hR⟩:∃R,R=ls++ljZ s 4:=⟨_,rfl⟩
 have HR0:Hid (ls++ljZ s 4=R):=hR.symm
 have HRL:Hid (R.length=n+4):=by rw[hR,List.length_append,hn];exact rfl
 rw[<-hR]
 clear hR
 rw[hn]
 clear hn hnil h8 ha
 go_enter Tryz.func81,Tryz.ntmps81
 go_wp2_with fail
 refine D.out.mono ?_
 rintro e w1 ⟨rfl,hb⟩
 have HB1:=hid hb
 clear D hb
 have hz1:=HB1.out.size
 have HO1:Hid ((w1.alloc (.cells #[] 5)).ownsRow w.heap.size 5 1 (.slice (some ⟨w1.heap.size,0,none⟩) 0 0) 0 []):=
  ⟨rfl, .inr ⟨w1.heap.size,0,#[],rfl,hz1,heap_alloc_new w1 _,Nat.le_refl _,by unfold maxLen;omega,rfl,rfl⟩⟩
 have HB2:Hid (Below w.heap.size w (w1.alloc (.cells #[] 5))):=aZ HB1.out
 have HS2:=hid (HSRC.out _ HB2.out)
 clear HB1 HSRC
 go_wp2_with(at_builtin;refine kZ rfl (.tmp 8) (.tmp 9) 22 rfl w.heap.size 5 j0 _ 1 1 Tryz.underlying22 hj0 hy0 hy1 hy2 rfl (by decide) _ _ _ (by rfl) HO1.out _ _ _ _ (by rfl) HS2.out (wZ _ _) (by unfold maxLen;omega) (by omega) (by simp;omega) ?_;intro v4 w4 hown4 hg4 hat4)
 have HO4:Hid (w4.ownsRow w.heap.size 5 1 v4 (n+0) (cZ .u8 ls)):=by rw[show n+0=0+n by omega];exact hown4
 have HB4:Hid (Below w.heap.size w w4):=HB2.out.grown hg4 (by simp;omega) (fun y hy=>(World.ownsRow.lt HO1.out y hy).1)
 clear hown4 hg4 hat4 HO1 HB2 HS2
 go_loopw [3,4,5] (fun u v t wr=>∃ (a k:Nat) (done:List Nat),u= .int .u32 a/\t= .int .i64 k/\a<4294967296/\k<=4/\Hid (done++ljZ a (4-k)=R)/\Hid (wr.ownsRow w.heap.size 5 1 v (n+k) (cZ .u8 done))/\Hid (Below w.heap.size w wr)) (fun _ _ t _=>4-(intOf t).toNat)
 case atStart=>exact⟨s,0,ls,rfl,rfl,hsl,by omega,HR0.out,HO4.out,HB4.out⟩
 case round=>
  obtain⟨a,k,done,rfl,rfl,hal,hk,HR,HO,HB⟩:=hrel
  clear HO4 HB4 HR0
  have hz:=HB.out.size
  by_cases h4:k<4
  ·have g2:decide ((k:Int)<4)=true:=by simp;omega
   have g2':decide (k<4)=true:=by simp;omega
   have s3:IntKind.i64.wrap ((k:Int)+1)=((k+1:Nat):Int):=by rw[IntWalk.i64_in _ (by omega)];omega
   have c1:IntKind.u8.wrap ((a:Int) % 256)=((a % 256:Nat):Int):=by rw[IntKind.wrap_u8'];omega
   have HR2:Hid ((done++ [a % 256])++ljZ (a / 256) (4-(k+1))=R):=by
    have h:=HR.out
    rw[show 4-k=(4-(k+1))+1 by omega,ljZ]at h
    rw[List.append_assoc]
    exact h
   obtain⟨b,hb⟩:∃b,b=a % 256:=⟨_,rfl⟩
   rw[<-hb]at c1 HR2
   clear hb HR
   go_wp2_with(at_builtin;refine kZ rfl (.tmp 15) (.tmp 19) 22 rfl w.heap.size 5 j0 _ 1 1 Tryz.underlying22 hj0 hy0 hy1 hy2 rfl (by decide) _ _ _ (by rfl) (HO.out.alloc _) _ 1 1 [.int .u8 (b:Nat)] (by rfl) (Src.of_blk (g:=wr.heap.size) (Blk.made _ _ _) 1 1 1 rfl) (by intro u hu;simp at hu;rcases hu with rfl;rfl) (by unfold maxLen;omega) (by omega) (by simp;omega) ?_;intro v5 w5 hown5 hg5 hat5)
   have HO5:Hid (w5.ownsRow w.heap.size 5 1 v5 (n+(k+1)) (cZ .u8 (done++ [b]))):=by
    rw[show cZ .u8 (done++ [b])=cZ .u8 done++ [.int .u8 (b:Nat)] by simp[cZ]]
    exact hown5
   have HB5:Hid (Below w.heap.size w w5):=(aZ HB.out).grown hg5 (by simp;omega) (fun y hy=>(World.ownsRow.lt HO.out y hy).1)
   exact⟨⟨a / 256,k+1,done++ [b],congrArg _ (by omega),rfl,by omega,by omega,HR2.out,HO5.out,HB5.out⟩,by simp[intOf];omega⟩
  ·obtain rfl:k=4:=by omega
   have HR2:Hid (done=R):=by have h:=HR.out;rw[show 4-4=0 from rfl,ljZ,List.append_nil]at h;exact h
   clear HR
   go_wp2_with fail
   go_ret
   exact⟨_,rfl,by rw[<-HR2.out];exact HO.out,HB.out⟩
end Go.Proofs.YtbgoibedicbkjaaGreatDoor.Crc
namespace Go.Proofs.YtbgoibedicbkjaaGreatDoor.Huff
open Go.RowKit Mem Canon
def pkZ(ls:List Nat)(s:Int):Nat:=if s<0 then 0 else ls.getD s.toNat 0
theorem pbZb(w:World)(g B:Nat)(A:Option Addr)(n c:Nat)(ls:List Nat)(s:Int)(hn:ls.length=n)(hs: -9223372036854775808<=s/\s<=9223372036854775807)
 (hsm:∀x∈ls,x<=255)(hg:w.cell? ⟨g,0,none⟩=some (.slice A n c))(ha:Row w B A n 1 (mZ .u8 ls)):
 Calls Tryz.prog 257 #[.pointer (some ⟨g,0,none⟩), .int .i64 s] w fun e w'=>e= .returned (.int .i64 (pkZ ls s:Nat))/\w=w':=by
 obtain⟨hs1,hs2⟩:=hs
 by_cases h0:s<0
 ·have e0:pkZ ls s=0:=by unfold pkZ;rw[if_pos h0]
  rw[e0]
  clear hsm hn
  go_enter Tryz.func257,Tryz.ntmps257
  go_wp2_with fail
  go_ret
  exact⟨rfl,rfl⟩
 ·obtain⟨m,rfl⟩:=Int.eq_ofNat_of_zero_le (show 0<=s by omega)
  by_cases h1:m<n
  ·obtain⟨b,off,x,rfl,hb,hx,hc⟩:=kbZ ha hn h1
   have hx255:x<=255:=hsm x (List.mem_of_getElem? hx)
   have e0:pkZ ls (m:Int)=x:=by unfold pkZ;rw[if_neg h0];simp[List.getD_eq_getElem?_getD,hx]
   rw[e0]
   have x0:(0:Int)<=(m:Int):=by omega
   have x1:(m:Int)<(n:Int):=by omega
   clear hsm hn hx
   go_enter Tryz.func257,Tryz.ntmps257
   go_wp2_with fail
   go_ret
   exact⟨by go_num,rfl⟩
  ·have e0:pkZ ls (m:Int)=0:=by
    unfold pkZ;rw[if_neg h0]
    simp[List.getD_eq_getElem?_getD,List.getElem?_eq_none (show ls.length<=m by omega)]
   rw[e0]
   have x1:¬(m:Int)<(n:Int):=by omega
   clear hsm hn
   go_enter Tryz.func257,Tryz.ntmps257
   go_wp2_with fail
   go_ret
   exact⟨rfl,rfl⟩
theorem len_any(w:World)(g B:Nat)(A:Option Addr)(n c:Nat)(ls:List Nat)(s:Int)(hn:ls.length=n)(hs: -9223372036854775808<=s/\s<=9223372036854775807)
 (hsm:∀x∈ls,x<=255)(hg:w.cell? ⟨g,0,none⟩=some (.slice A n c))(ha:Row w B A n 1 (mZ .u8 ls)):
 Calls Tryz.prog 225 #[.pointer (some ⟨g,0,none⟩), .int .i64 s] w fun e w'=>e= .returned (.int .i64 (pkZ ls s:Nat))/\w=w':=by
 have C:=hid (pbZb w g B A n c ls s hn hs hsm hg ha)
 clear hn hs hsm ha
 go_enter Tryz.func225,Tryz.ntmps225
 go_wp2_with fail
 refine C.out.mono ?_
 rintro e w1 ⟨rfl,rfl⟩
 go_wp2_with fail
 go_ret
 exact⟨rfl,rfl⟩
end Go.Proofs.YtbgoibedicbkjaaGreatDoor.Huff
namespace Go.Proofs.YtbgoibedicbkjaaGreatDoor.Huff
open Canon
def ubZ(ls:List Nat):List Bool:=(List.range (8*ls.length)).map fun i=>decide (ls.getD (i / 8) 0 / 2 ^ (7-i % 8) % 2=1)
theorem nbZ(ls:List Nat):(ubZ ls).length=8*ls.length:=by simp[ubZ]
theorem qtZ{ls:List Nat}{i:Nat}(h:i<8*ls.length):bit (ubZ ls) i=ls.getD (i / 8) 0 / 2 ^ (7-i % 8) % 2:=by
 unfold bit ubZ
 rw[List.getD_eq_getElem?_getD,List.getElem?_map,List.getElem?_range h]
 simp only[Option.map_some,Option.getD_some,decide_eq_true_eq]
 split<;>omega
end Go.Proofs.YtbgoibedicbkjaaGreatDoor.Huff
namespace Go.Proofs.YtbgoibedicbkjaaGreatDoor.Canon
open Go.RowKit Mem Own
theorem tzZ{w:World}{base n c:Nat}{A:Option Addr}{xs:List Value}{e:TypeId}(h:w.ownsRow base e 1 (.slice A n c) n xs):Src w A n c 1 xs:=by
 obtain⟨h0,h1⟩:=h
 refine⟨h0,?_⟩
 rcases h1 with ⟨hv,_⟩|⟨g,cap,cur,hv,_,hh,_,_,_,htake⟩
 ·injection hv with e1 e2 e3
  exact .inl ⟨e1,e2,e3⟩
 ·injection hv with e1 e2 e3
  refine .inr ⟨⟨g,0,none⟩,e1,fun j u hu=> ?_⟩
  rw[cdZ,Nat.zero_add,Blk.cell hh]
  rw[<-htake,List.getElem?_take]at hu
  split at hu
  ·simpa using hu
  ·cases hu
theorem xrZ:(Tryz.prog.info? 3).map (fun i=>(i.zero,i.size,i.bytes))=some (some (.int .i64 0),1,8):=by kernel_rfl
theorem rtZ(w:World)(base:Nat)(A:Option Addr)(n c:Nat)(xs:List Value)(hle:n<=3000000)(h:w.ownsRow base 3 1 (.slice A n c) n xs)(hone:∀u∈xs,u.oneCell'=true):
 Calls Tryz.prog 44 #[.slice A n c] w fun e w'=>∃v,e= .returned v/\w'.ownsRow w.heap.size 3 1 v n xs/\Below w.heap.size w w':=by
 obtain⟨j0,hj0,hy0,hy1,hy2⟩:=info_parts xrZ
 have heq:=fun(w:World) (a:Option Addr) (n c:Nat)=>Lib.run_eql_slice_nil (P:=Tryz.prog) w 30 3 a n c 0 0 Tryz.underlying30
 cases A with
 |none=>
  obtain⟨rfl,rfl⟩:=(lfZ h).1 rfl
  have hl:xs= []:=List.eq_nil_of_length_eq_zero (by have:=h.1;omega)
  subst hl
  clear h hone
  go_enter Tryz.func44,Tryz.ntmps44
  go_wp2_with fail
  go_ret
  exact⟨_,rfl,World.ownsRow_nil _ _ _ _,Below.refl _ _⟩
 |some ad=>
  have hown:(w.alloc (.cells #[] 3)).ownsRow w.heap.size 3 1 (.slice (some ⟨w.heap.size,0,none⟩) 0 0) 0 []:=World.ownsRow_made w #[] 0 (Nat.le_refl _) (by unfold maxLen;omega) rfl
  have hsrc:Src (w.alloc (.cells #[] 3)) (some ad) n c 1 xs:=tzZ (h.alloc _)
  clear h
  go_enter Tryz.func44,Tryz.ntmps44
  go_wp2_with(at_builtin;refine kZ rfl (.tmp 5) (.tmp 6) 30 rfl w.heap.size 3 j0 _ 1 8 Tryz.underlying30 hj0 hy0 hy1 hy2 rfl (by decide) _ _ _ (by rfl) hown _ n _ xs (by rfl) hsrc hone (by unfold maxLen;omega) (by omega) (by simp) ?_;intro v3 w3 hown3 hg3 hat3;obtain⟨A3,c3,rfl⟩:=bZ hown3)
  go_ret
  refine⟨_,rfl,?_,?_⟩
  ·simpa using hown3
  ·exact(aZ (o:= .cells #[] 3) (Below.refl _ _)).grown hg3 (by simp) (fun k hk=>by simp[Value.ownBlock]at hk;omega)
theorem yrZ:(Tryz.prog.info? 9).map (fun i=>(i.zero,i.size,i.bytes))=some (some (.string ⟨#[]⟩),1,16):=by kernel_rfl
theorem stZ(w:World)(base:Nat)(A:Option Addr)(n c:Nat)(xs:List Value)(hle:n<=3000000)(h:w.ownsRow base 9 1 (.slice A n c) n xs)(hone:∀u∈xs,u.oneCell'=true):
 Calls Tryz.prog 46 #[.slice A n c] w fun e w'=>∃v,e= .returned v/\w'.ownsRow w.heap.size 9 1 v n xs/\Below w.heap.size w w':=by
 obtain⟨j0,hj0,hy0,hy1,hy2⟩:=info_parts yrZ
 have heq:=fun(w:World) (a:Option Addr) (n c:Nat)=>Lib.run_eql_slice_nil (P:=Tryz.prog) w 33 9 a n c 0 0 Tryz.underlying33
 cases A with
 |none=>
  obtain⟨rfl,rfl⟩:=(lfZ h).1 rfl
  have hl:xs= []:=List.eq_nil_of_length_eq_zero (by have:=h.1;omega)
  subst hl
  clear h hone
  go_enter Tryz.func46,Tryz.ntmps46
  go_wp2_with fail
  go_ret
  exact⟨_,rfl,World.ownsRow_nil _ _ _ _,Below.refl _ _⟩
 |some ad=>
  have hown:(w.alloc (.cells #[] 9)).ownsRow w.heap.size 9 1 (.slice (some ⟨w.heap.size,0,none⟩) 0 0) 0 []:=World.ownsRow_made w #[] 0 (Nat.le_refl _) (by unfold maxLen;omega) rfl
  have hsrc:Src (w.alloc (.cells #[] 9)) (some ad) n c 1 xs:=tzZ (h.alloc _)
  clear h
  go_enter Tryz.func46,Tryz.ntmps46
  go_wp2_with(at_builtin;refine kZ rfl (.tmp 5) (.tmp 6) 33 rfl w.heap.size 9 j0 _ 1 16 Tryz.underlying33 hj0 hy0 hy1 hy2 rfl (by decide) _ _ _ (by rfl) hown _ n _ xs (by rfl) hsrc hone (by unfold maxLen;omega) (by omega) (by simp) ?_;intro v3 w3 hown3 hg3 hat3;obtain⟨A3,c3,rfl⟩:=bZ hown3)
  go_ret
  refine⟨_,rfl,?_,?_⟩
  ·simpa using hown3
  ·exact(aZ (o:= .cells #[] 9) (Below.refl _ _)).grown hg3 (by simp) (fun k hk=>by simp[Value.ownBlock]at hk;omega)
end Go.Proofs.YtbgoibedicbkjaaGreatDoor.Canon
