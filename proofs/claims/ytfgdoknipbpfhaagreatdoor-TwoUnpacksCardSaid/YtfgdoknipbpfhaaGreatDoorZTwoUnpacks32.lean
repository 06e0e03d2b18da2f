/- The walks of opts.Ma -/
import Derived.Test.YtfgdoknipbpfhaaGreatDoorZTwoUnpacks31
import Derived.WideShapes
namespace Go.Proofs.YtfgdoknipbpfhaaGreatDoor
open Go.Proofs.Tryz
open Go.Lib (hid)
set_option maxHeartbeats 4000000
set_option maxRecDepth 100000
variable{w w':World}{base g gb r:Nat}{er:Int}{C L S T ls:List Nat}{F:List (List Nat)}{K:List Bool}
namespace One
open Go.RowKit Go.WideShapes Mem Own Canon NumPut Nums Opts
open Crc (Cv Dd CX)
def C9(bs:List Nat):Int:=if bs.length<5 then 1 else if bs.take 4≠ [70,73,82,75]then 3 else if bs.getD 4 0<1∨3<bs.getD 4 0 then 4 else 0
def EI(bs:List Nat):Nat:=if C9 bs=0 then bs.getD 4 0 else 0
theorem WF{bs:List Nat}(h:5<=bs.length):bs.take 4= [bs.getD 0 0,bs.getD 1 0,bs.getD 2 0,bs.getD 3 0]:=by
 match bs,h with
 |a :: b :: c :: d :: t,_=>rfl
theorem Sr{bs:List Nat}(h:bs.length<5):C9 bs=1/\EI bs=0:=by have e:C9 bs=1:=Ab h;exact⟨e,nH⟩
theorem Px{bs:List Nat}(h:¬bs.length<5)(h2:bs.take 4≠ [70,73,82,75]):C9 bs=3/\EI bs=0:=by
 have e:C9 bs=3:=by unfold C9;rw[Aa h,Ab h2]
 exact⟨e,nH⟩
theorem PQ{bs:List Nat}(h:¬bs.length<5)(h2:bs.take 4= [70,73,82,75])(h3:bs.getD 4 0<1∨3<bs.getD 4 0):C9 bs=4/\EI bs=0:=by
 have e:C9 bs=4:=by unfold C9;rw[Aa h,Aa nA,Ab h3]
 exact⟨e,nH⟩
theorem OB{bs:List Nat}(h:¬bs.length<5)(h2:bs.take 4= [70,73,82,75])(h3:¬(bs.getD 4 0<1∨3<bs.getD 4 0)):C9 bs=0/\EI bs=bs.getD 4 0:=by
 have e:C9 bs=0:=by unfold C9;rw[Aa h,Aa nA,Aa h3]
 exact⟨e,by unfold EI;rw[Ab e]⟩
theorem Qj(w:World)(A:Option Addr)(n c:Nat)(bs:List Nat)(hn:bs.length=n)(y:n<=100000)(ha:Row w w A n 1 (jZ .u8 bs)):
 Calls prog 144 #[.slice A n c] w fun e w'=>e= .returned (.tuple #[.int .i64 (EI bs:Nat), .int .i64 (C9 bs)])/\w'=w:=by
 by_cases h5:n<5
 ·obtain⟨e1,e2⟩:=Sr (bs:=bs) kR;rw[e1,e2];have g1:=iQ ((n:Int)<5)
  have g2:=iQ (n<5)
  clear e1 e2 ha hn;go_enter func144,ntmps144;go_wp2_with fail;go_ret2;exact⟨rfl,rfl⟩
 ·obtain⟨b,j,rfl,hb,hc⟩:=ha kR;have g1:=iR ((n:Int)<5)
  have g2:=iR (n<5)
  have c0:=hc 0 0 kR kR;have c1:=hc 1 0 kR kR;have c2:=hc 2 0 kR kR;have c3:=hc 3 0 kR kR;have c4:=hc 4 0 kR kR;simp only[jZ,Nat.mul_one,Nat.add_zero]at c0 c1 c2 c3 c4;have i0:=iQ ((0:Int)<n)
  have i1:(1:Int)<(n:Int):=kR
  have i2:(2:Int)<(n:Int):=kR
  have i3:(3:Int)<(n:Int):=kR
  have i4:(4:Int)<(n:Int):=kR
  have h4:=WF (bs:=bs) kR;have m1:=fun h2=>Px (bs:=bs) kR h2;have m2:=fun h2 h3=>PQ (bs:=bs) kR h2 h3;have m3:=fun h2 h3=>OB (bs:=bs) kR h2 h3;rw[h4]at m1 m2 m3;generalize bs.getD 0 0=x0 at *;generalize bs.getD 1 0=x1 at *;generalize bs.getD 2 0=x2 at *;generalize bs.getD 3 0=x3 at *;generalize bs.getD 4 0=x4 at *;have M1:=hid m1;have M2:=hid m2;have M3:=hid m3;clear m1 m2 m3 h4 hc ha hn;by_cases q0:x0=70
  ·subst q0;by_cases q1:x1=73
   ·subst q1;by_cases q2:x2=82
    ·subst q2;by_cases q3:x3=75
     ·subst q3;by_cases q4:x4<1∨3<x4
      ·obtain⟨e1,e2⟩:=M2.out rfl q4;rw[e1,e2];clear M1 M2 M3 e1 e2;by_cases q5:x4<1
       ·have g3:=iQ ((x4:Int)<1);have h:=iQ (x4<1);have g4:=iR ((3:Int)<x4);have i:=iR (3<x4);clear q4 q5;go_enter func144,ntmps144;go_wp2_with fail;go_ret2;exact⟨rfl,rfl⟩
       ·have g3:=iR ((x4:Int)<1);have h:=iR (x4<1);have g4:=iQ ((3:Int)<x4);have i:=iQ (3<x4);clear q4 q5;go_enter func144,ntmps144;go_wp2_with fail;go_ret2;exact⟨rfl,rfl⟩
      ·obtain⟨e1,e2⟩:=M3.out rfl q4;rw[e1,e2];have g3:=iR ((x4:Int)<1);have h:=iR (x4<1);have g4:=iR ((3:Int)<x4);have i:=iR (3<x4);have s1:IntKind.i64.wrap (x4:Int)=(x4:Int):=lB;clear M1 M2 M3 e1 e2 q4;go_enter func144,ntmps144;go_wp2_with fail;go_ret2;exact⟨rfl,rfl⟩
     ·obtain⟨e1,e2⟩:=M1.out (by simp[q3]);rw[e1,e2];have g5:((x3:Int) != 75)=true:=ni;clear M1 M2 M3 e1 e2 q3;go_enter func144,ntmps144;go_wp2_with fail;go_ret2;exact⟨rfl,rfl⟩
    ·obtain⟨e1,e2⟩:=M1.out (by simp[q2]);rw[e1,e2];have g5:((x2:Int) != 82)=true:=ni;clear M1 M2 M3 e1 e2 q2;go_enter func144,ntmps144;go_wp2_with fail;go_ret2;exact⟨rfl,rfl⟩
   ·obtain⟨e1,e2⟩:=M1.out (by simp[q1]);rw[e1,e2];have g5:((x1:Int) != 73)=true:=ni;clear M1 M2 M3 e1 e2 q1;go_enter func144,ntmps144;go_wp2_with fail;go_ret2;exact⟨rfl,rfl⟩
  ·obtain⟨e1,e2⟩:=M1.out (by simp[q0]);rw[e1,e2];have g5:((x0:Int) != 70)=true:=ni;clear M1 M2 M3 e1 e2 q0;go_enter func144,ntmps144;go_wp2_with fail;go_ret2;exact⟨rfl,rfl⟩
theorem Sd(w:World)(A:Option Addr)(n c:Nat)(bs:List Nat)(hn:bs.length=n)(z:n<=100000)(y:n<=c)(h8:∀x∈bs,x<=255)(ha:Row w w A n 1 (jZ .u8 bs)):
 Calls prog 157 #[.slice A n c] w fun e w'=>e= .returned (.tuple #[.int .i64 (EI bs:Nat), .int .i64 (C9 bs)])/\w'=w:=by
 by_cases h5:n<5
 ·obtain⟨e1,e2⟩:=Sr (bs:=bs) kR;rw[e1,e2];have g1:=iQ ((n:Int)<=4)
  have g2:=iQ (n<=4)
  clear e1 e2 ha hn;go_enter func157,ntmps157;go_wp2_with fail;go_ret2;exact⟨rfl,rfl⟩
 ·have g1:=iR ((n:Int)<=4)
  have g2:=iR (n<=4)
  have i4:(4:Int)<(n:Int):=kR
  have hA:∀a,A=some a->a.add 0=a:=by obtain⟨b,j,rfl,_⟩:=ha kR;intro a h;injection h with h;subst h;rw[Fp,CT]
  have ks:=fun wx=>CX (P:=prog) (t:=28) (s:=1) underlying28 (fun _=>by kernel_rfl) A n c .i64 (4:Int) 4 rfl kR hA wx;have cv:=Nt (c:=c) (Dd ha (show 4<=n by omega)) ln;obtain⟨b,j,rfl,hb,hc⟩:=ha kR;have c4:=hc 4 0 kR kR;simp only[jZ,Nat.mul_one,Nat.add_zero]at c4;have m1:=fun h2=>Px (bs:=bs) kR h2;have m2:=fun h2 h3=>PQ (bs:=bs) kR h2 h3;have m3:=fun h2 h3=>OB (bs:=bs) kR h2 h3;have i:∀x∈bs.take 4,x<=255:=fun x hx=>h8 x (BZ hx);have E:bs.getD 4 0<=255:=by rw[Ar,AE (show 4<bs.length by omega)];exact h8 _ (Hi _)
  generalize bs.getD 4 0=x4 at *;generalize bs.take 4=T at *;have M1:=hid m1;have M2:=hid m2;have M3:=hid m3;have s1:IntKind.i64.wrap (x4:Int)=(x4:Int):=lB
  have DW:=hid (Lc w (x4:Int) 1 3);have H8:=hid i;clear m1 m2 m3 hc hn h8 i hA;by_cases hT:T= [70,73,82,75]
  ·have gE:((DQ T).toList==([70,73,82,75]:List UInt8))=true:=(by rw[hT,Fw];rfl);by_cases q4:x4<1∨3<x4
   ·obtain⟨e1,e2⟩:=M2.out hT q4;rw[e1,e2];rw[show decide ((1:Int)<=(x4:Int)/\(x4:Int)<=3)=false by simp;omega]at DW;clear M1 M2 M3 e1 e2 q4 hT;go_enter func157,ntmps157;go_wp2_with fail;refine DW.out.mono ?_;rintro e w1 ⟨rfl,rfl⟩;go_wp2_with fail;go_ret2;exact⟨rfl,rfl⟩
   ·obtain⟨e1,e2⟩:=M3.out hT q4;rw[e1,e2];rw[show decide ((1:Int)<=(x4:Int)/\(x4:Int)<=3)=true by simp;omega]at DW;clear M1 M2 M3 e1 e2 q4 hT;go_enter func157,ntmps157;go_wp2_with fail;refine DW.out.mono ?_;rintro e w1 ⟨rfl,rfl⟩;go_wp2_with fail;go_ret2;exact⟨rfl,rfl⟩
  ·obtain⟨e1,e2⟩:=M1.out hT;rw[e1,e2];have gE:((DQ T).toList==([70,73,82,75]:List UInt8))=false:=(by rw[Df,Fw];intro h;refine hT ?_;have h2:DQ T=(⟨#[70,73,82,75]⟩:ByteArray):=bytes_inj h;have h3:=AI sB h2;rw[X8 H8.out]at h3;exact h3);clear M1 M2 M3 e1 e2 hT;go_enter func157,ntmps157;go_wp2_with fail;go_ret2;exact⟨rfl,rfl⟩
end One
namespace Body
open Go.RowKit Mem Own Canon Nums Crc Opts
open Go.Proofs.YtfgdoknipbpfhaaGreatDoor.One (C9 EI)
def tA0(ls:List Nat):Nat:=takeA ls 0 0 5
def tE0(ls:List Nat):Int:=Bh ls 0 0 5
def tS(ls:List Nat):Nat:=zZ 32768 ls (tA0 ls) (tE0 ls)
def tA1(ls:List Nat):Nat:=nZ 32768 ls (tA0 ls) (tE0 ls)
def tE1(ls:List Nat):Int:=oZ 32768 ls (tA0 ls) (tE0 ls)
def tP(ls:List Nat):Nat:=Dz ls (tA1 ls) (tE1 ls)
def tA2(ls:List Nat):Nat:=takeA ls (tA1 ls) (tE1 ls) 1
def tE2(ls:List Nat):Int:=Bh ls (tA1 ls) (tE1 ls) 1
def tF2(ls:List Nat):Int:=if 1<tP ls then Du (tE2 ls) 2 else tE2 ls
def tK(ls:List Nat):Nat:=zZ 64 ls (tA2 ls) (tF2 ls)
def tA3(ls:List Nat):Nat:=nZ 64 ls (tA2 ls) (tF2 ls)
def tE3(ls:List Nat):Int:=oZ 64 ls (tA2 ls) (tF2 ls)
def tA4(ls:List Nat):Nat:=takeA ls (tA3 ls) (tE3 ls) 4
def tE4(ls:List Nat):Int:=Bh ls (tA3 ls) (tE3 ls) 4
def tO(ls:List Nat):Opt:=⟨(tS ls:Nat),decide (tP ls=1),(tK ls:Nat),0,0,0⟩
def CF(ls:List Nat):Int:=if tE4 ls≠0 then tE4 ls else if Bx (ls.take (tA4 ls))≠0 then Bx (ls.take (tA4 ls))else Dj (tO ls)
def FP(ls:List Nat):Nat:=if tE4 ls≠0 then 0 else if Bx (ls.take (tA4 ls))≠0 then 0 else tA4 ls
def Cr(ls:List Nat):Int:=if C9 ls≠0 then C9 ls else if EI ls≠2 then 4 else if CF ls≠0 then CF ls else BO (tO ls) (ls.drop (tA4 ls))
end Body
namespace Body
open Go.RowKit Mem Own Canon Nums Crc Opts
theorem J8{c at_:Nat}{bs:List Nat}{A:Option Addr}{t:TypeId}{cs:Array Value}(h:Cur w g base bs A c at_ er)(ht:t≠243/\5≠t)(hr:Blk w r t cs)(k:Nat)(u:Value):Cur (w.setCell ⟨r,k,none⟩ u) g base bs A c at_ er:=
 ⟨h.blk.far (fun e=>Blk.apart hr h.blk ht.1 e.symm) _,sZ h.own (fZ h.own hr ht.2) _,h.le,h.lo⟩
theorem Pp(h:TabAt w)(hk:Kept (fun x=>x<w.heap.size/\x≠r/\x≠g) w w')(hr:0<r)(hg:0<g):TabAt w':=fun i hi=>(World.cell?_of_block (a:=⟨_,i,none⟩) (hk.block _ ⟨h.lt,Nat.ne_of_lt hr,Nat.ne_of_lt hg⟩)).trans (h i hi)
theorem tread_any(w:World)(r g base rb:Nat)(ls:List Nat)(B:Option Addr)(d:Nat)(X:Option Addr)(n c:Nat)(hn:ls.length=n)(bF:n<=100000)(bC:n<=c)(h8:∀x∈ls,x<=255)(ht:TabAt w)(bG:0<rb)(hX:Row w rb X n 1 (jZ .u8 ls))(bH:rb<=g/\rb<=r)(h:Cur w g base ls B d 0 0)(hr:Blk w r 213 #[.pointer (some ⟨g,0,none⟩),iT,false,iT,iT,iT,iT]):
 Calls prog 158 #[.pointer (some ⟨r,0,none⟩), .slice X n c] w fun e w'=>e= .returned (.tuple #[.int .i64 (FP ls:Nat), .int .i64 (CF ls)])/\Kept (fun x=>x<w.heap.size/\x≠r/\x≠g) w w'/\(CF ls=0->Blk w' r 213 #[.pointer (some ⟨g,0,none⟩), .int .i64 (tS ls:Nat), .bool (decide (tP ls=1)), .int .i64 (tK ls:Nat),iT,iT,iT]):=by
 have ab:ls.length<=100000:=kR
 have ac:r≠g:=Blk.apart hr h.blk iX;have bE:=h.blk.lt;have bA:=hr.lt;have D1:=hid (Ic w g base ls B d 0 0 5 ab kR h);have D2:=hid (fun wx hx=>GJ wx g base ls B d (tA0 ls) (tE0 ls) 32768 ab h8 kR hx);have D3:=hid (fun wx hx=>NZ wx g base ls B d (tA1 ls) (tE1 ls) ab hx);have D4:=hid (fun wx hx=>Gc wx g base ls B d (tA2 ls) (tE2 ls) 2 hx);have D5:=hid (fun wx hx=>GJ wx g base ls B d (tA2 ls) (tF2 ls) 64 ab h8 kR hx);have D6:=hid (fun wx hx=>Ic wx g base ls B d (tA3 ls) (tE3 ls) 4 ab kR hx);have hF:(1<tP ls->tF2 ls=Du (tE2 ls) 2)/\(¬1<tP ls->tF2 ls=tE2 ls):=⟨fun h=>Ab h,fun h=>Aa h⟩
 have hP:tP ls<=255:=by
  unfold tP Dz;split
  ·omega
  ·rw[Ar];cases hq:ls[tA1 ls]? with
   |none=>simp
   |some y=>exact h8 y (BP hq)
 have HE:Hid ((tE4 ls=0->(Bx (ls.take (tA4 ls))=0->FP ls=tA4 ls/\CF ls=Dj ⟨(tS ls:Nat),decide (tP ls=1),(tK ls:Nat),0,0,0⟩)/\(Bx (ls.take (tA4 ls))≠0->FP ls=0/\CF ls=Bx (ls.take (tA4 ls))))/\(tE4 ls≠0->FP ls=0/\CF ls=tE4 ls)):=by
  refine⟨fun h=>⟨fun h2=> ?_,fun h2=> ?_⟩,fun h=> ?_⟩
  ·unfold FP CF;rw[Aa nm,Aa (by simp[h2]),Aa nm,Aa (by simp[h2])];exact⟨rfl,rfl⟩
  ·unfold FP CF;rw[Aa nm,Ab h2,Aa nm,Ab h2];exact⟨rfl,rfl⟩
  ·unfold FP CF;rw[Ab h,Ab h];exact⟨rfl,rfl⟩
 have bk:tA4 ls<=n:=by rw[<-hn];exact GL ls _ _ _ (intA_le h8 _ (GL ls _ _ _ (intA_le h8 _ (GL ls 0 0 5 (Ba _)))))
 unfold IH at D1 D6;rw[show takeA ls 0 0 5=tA0 ls from rfl,show Bh ls 0 0 5=tE0 ls from rfl]at D1;rw[show zZ 32768 ls (tA0 ls) (tE0 ls)=tS ls from rfl,show nZ 32768 ls (tA0 ls) (tE0 ls)=tA1 ls from rfl,show oZ 32768 ls (tA0 ls) (tE0 ls)=tE1 ls from rfl]at D2;rw[show Dz ls (tA1 ls) (tE1 ls)=tP ls from rfl,show takeA ls (tA1 ls) (tE1 ls) 1=tA2 ls from rfl,show Bh ls (tA1 ls) (tE1 ls) 1=tE2 ls from rfl]at D3;rw[show zZ 64 ls (tA2 ls) (tF2 ls)=tK ls from rfl,show nZ 64 ls (tA2 ls) (tF2 ls)=tA3 ls from rfl,show oZ 64 ls (tA2 ls) (tF2 ls)=tE3 ls from rfl]at D5;rw[show takeA ls (tA3 ls) (tE3 ls) 4=tA4 ls from rfl,show Bh ls (tA3 ls) (tE3 ls) 4=tE4 ls from rfl]at D6;generalize FP ls=hN at *;generalize CF ls=bD at *;generalize tA0 ls=a0 at *;generalize tE0 ls=e0 at *;generalize tS ls=S at *;generalize tA1 ls=a1 at *;generalize tE1 ls=e1 at *;generalize tP ls=P at *;generalize tA2 ls=a2 at *;generalize tE2 ls=e2 at *;generalize tF2 ls=bp at *;generalize tK ls=K at *;generalize tA3 ls=a3 at *;generalize tE3 ls=e3 at *;generalize tA4 ls=a4 at *;generalize tE4 ls=e4 at *;have HF:=hid hF;obtain⟨pb,bh⟩:∃pb,pb=decide (P=1):=⟨_,rfl⟩;rw[<-bh]at HE ⊢
 have gP:((P:Int)==1)=pb:=by
  rw[bh];by_cases h:P=1
  ·subst h;rfl
  ·rw[Az h,Df];omega
 have p0:=hr.iO 0;have bm:=hid hr;clear hF bh h hr;go_enter func158,ntmps158;go_wp2_with fail;refine D1.out.mono ?_;rintro e w1 ⟨v1,rfl,_,bn,ah⟩;have bg:Blk w1 r 213 #[.pointer (some ⟨g,0,none⟩),iT,false,iT,iT,iT,iT]:=(ah.block r ⟨bA,ac⟩).trans bm.out;have bj:Hid (Kept (fun x=>x<w.heap.size/\x≠r/\x≠g) w w1):=⟨ah.os,ah.tape,ah.output,ah.size,fun x hx=>ah.block x ⟨hx.1,hx.2.2⟩⟩;have bf:=hid bg;have p1:=bg.iO 0;have z1:=ah.size;have D2:=hid (D2.out _ bn);clear bg bn ah D1 p0;go_wp2_with fail;refine D2.out.mono ?_;rintro e w2 ⟨rfl,bl,al⟩;have aQ:Blk w2 r 213 #[.pointer (some ⟨g,0,none⟩),iT,false,iT,iT,iT,iT]:=(al.block r ⟨bf.out.lt,ac⟩).trans bf.out;have bi:Hid (Kept (fun x=>x<w.heap.size/\x≠r/\x≠g) w (w2.setCell ⟨r,1,none⟩ (.int .i64 (S:Nat)))):=(bj.out.trans ⟨al.os,al.tape,al.output,al.size,fun x hx=>al.block x ⟨kR,hx.2.2⟩⟩).set (fun h=>h.2.1 rfl) _;have q1:=aQ.iO 1;have f1:=aQ.frozen 1;have bb:Hid (Blk (w2.setCell ⟨r,1,none⟩ (.int .i64 (S:Nat))) r 213 #[.pointer (some ⟨g,0,none⟩), .int .i64 (S:Nat),false,iT,iT,iT,iT]):=hid (by simpa using aQ.set 1 (.int .i64 (S:Nat)));have p2:=bb.out.iO 0;have D3:=hid (D3.out _ (J8 bl iX aQ 1 (.int .i64 (S:Nat))));clear aQ bl al D2 bf bj p1 bm;go_wp2_with fail;refine D3.out.mono ?_;rintro e w3 ⟨rfl,ay,aj⟩;have aw:Blk w3 r 213 #[.pointer (some ⟨g,0,none⟩), .int .i64 (S:Nat),false,iT,iT,iT,iT]:=(aj.block r ⟨bb.out.lt,ac⟩).trans bb.out;have z2:=bi.out.size;have ae:Kept (fun x=>x<w.heap.size/\x≠r/\x≠g) w w3:=bi.out.trans ⟨aj.os,aj.tape,aj.output,aj.size,fun x hx=>aj.block x ⟨kR,hx.2.2⟩⟩;clear aj D3 bb bi p2 q1 f1;by_cases bc:1<P
 ·have gp:=iQ ((1:Int)<P)
  have bB:=iQ (1<P)
  have aV:=HF.out.1 bc;have D4:=hid (D4.out _ ay);rw[<-aV]at D4;have p3:=aw.iO 0;have z3:=ae.size;have be:=hid aw;have bd:=hid ae;clear bc aV aw ae ay;go_wp2_with fail;refine D4.out.mono ?_;rintro e w4 ⟨rfl,ai,au⟩;have U:Hid (Blk w4 r 213 #[.pointer (some ⟨g,0,none⟩), .int .i64 (S:Nat),false,iT,iT,iT,iT]):=(au.block r ac).trans be.out;have aT:Hid (Kept (fun x=>x<w.heap.size/\x≠r/\x≠g) w w4):=bd.out.trans ⟨au.os,au.tape,au.output,au.size,fun x hx=>au.block x hx.2.2⟩;have a7:=hid ai;have p0:=p3;clear ai au D4 be bd p3;have q2:=U.out.iO 2;have f2:=U.out.frozen 2;have aW:Blk (w4.setCell ⟨r,2,none⟩ (.bool pb)) r 213 #[.pointer (some ⟨g,0,none⟩), .int .i64 (S:Nat),pb,iT,iT,iT,iT]:=by simpa using U.out.set 2 (.bool pb)
  have ai:Cur (w4.setCell ⟨r,2,none⟩ (.bool pb)) g base ls B d a2 bp:=J8 a7.out iX U.out _ _;have am:Hid (Kept (fun x=>x<w.heap.size/\x≠r/\x≠g) w (w4.setCell ⟨r,2,none⟩ (.bool pb))):=aT.out.set (fun h=>h.2.1 rfl) _;have ax:=hid ai;have an:=hid aW;have q0:=an.out.iO 0;have D5:=hid (D5.out _ ax.out);clear aW ai a7 aT p0;go_wp2_with fail;refine D5.out.mono ?_;rintro e w5 ⟨rfl,aP,z⟩;have aY:=(z.block r ⟨an.out.lt,ac⟩).trans an.out;have aa:Hid (Blk w5 r 213 #[.pointer (some ⟨g,0,none⟩), .int .i64 (S:Nat),pb,iT,iT,iT,iT]):=aY;have z4:=am.out.size;have aS:Hid (Kept (fun x=>x<w.heap.size/\x≠r/\x≠g) w w5):=am.out.trans ⟨z.os,z.tape,z.output,z.size,fun x hx=>z.block x ⟨kR,hx.2.2⟩⟩;have a5:=hid aP;have q3:=aa.out.iO 3;have f3:=aa.out.frozen 3;have ba:Blk (w5.setCell ⟨r,3,none⟩ (.int .i64 (K:Nat))) r 213 #[.pointer (some ⟨g,0,none⟩), .int .i64 (S:Nat),pb, .int .i64 (K:Nat),iT,iT,iT]:=by simpa using aa.out.set 3 (.int .i64 (K:Nat))
  have a9:Hid (Cur (w5.setCell ⟨r,3,none⟩ (.int .i64 (K:Nat))) g base ls B d a3 e3):=J8 a5.out iX aa.out _ _;have ar:Hid (Kept (fun x=>x<w.heap.size/\x≠r/\x≠g) w (w5.setCell ⟨r,3,none⟩ (.int .i64 (K:Nat)))):=aS.out.set (fun h=>h.2.1 rfl) _;have av:=hid ba;have q6:=av.out.iO 0;have D6:=hid (D6.out _ a9.out);clear ba aY aP z a5 aS ax am D5 q0;go_wp2_with fail;refine D6.out.mono ?_;rintro e w7 ⟨v7,rfl,_,aR,E⟩;have aU:=(E.block r ⟨av.out.lt,ac⟩).trans av.out;have ak:Hid (Blk w7 r 213 #[.pointer (some ⟨g,0,none⟩), .int .i64 (S:Nat),pb, .int .i64 (K:Nat),iT,iT,iT]):=aU;have z6:=ar.out.size;have J:Hid (Kept (fun x=>x<w.heap.size/\x≠r/\x≠g) w w7):=ar.out.trans ⟨E.os,E.tape,E.output,E.size,fun x hx=>E.block x ⟨kR,hx.2.2⟩⟩;have Q:=hid aR;have q7:=ak.out.iO 0;have D7:=hid (CJ w7 g base ls B d a4 e4 Q.out);have D8:=hid (GQ w7 g base ls B d a4 e4 Q.out);have z7:=J.out.size;clear aU aR E a9 ar D6 q6 q3 f3 q2 f2;go_wp2_with fail;refine D7.out.mono ?_;rintro e w8 ⟨rfl,rfl⟩;by_cases M:e4=0
  ·subst M;have af:Row w8 w8 X a4 1 (jZ .u8 (ls.take a4)):=(Dd hX bk).keep (fun a ha=>World.cell?_of_block (a:=a) (J.out.block a.block ⟨kR,kR,kR⟩)) |>.mono kR;have D9:=JG w8 X a4 c (ls.take a4) (by rw[AN,hn];omega) kR kR (fun x hx=>h8 x (BZ hx)) (Pp ht J.out kR kR) af;unfold EL at D9;have ks:=fun wx=>CX (P:=prog) (t:=28) (s:=1) underlying28 (fun _=>by kernel_rfl) X n c .i64 (a4:Int) a4 rfl kR (fun a _=>rfl) wx;have hE:=HE.out.1 rfl;generalize vZ (ls.take a4)=co at *;generalize Bx (ls.take a4)=ce at *;have D9:=hid D9;have Y:=hid hE;clear af hE;go_wp2_with fail;refine D8.out.mono ?_;rintro e w9 ⟨rfl,rfl⟩;go_wp2_with fail;refine D9.out.mono ?_;rintro e Z ⟨bt,rfl,ag,G⟩;have L:Hid (Kept (fun x=>x<w.heap.size/\x≠r/\x≠g) w Z):=J.out.trans (Kept.of_below G (fun x hx=>by have:=hx.1;omega));have i:=hid (ak.out.step G);have a6:=hid (Q.out.step G);obtain⟨bu,bq,rfl⟩:=aZ ag;clear ag G D9 Q ak J q7;by_cases N:ce=0
   ·subst N;have hE:=Y.out.1 rfl;have DA:=hid (fun wx (hb:aO Z wx)=>GQ wx g base ls B d a4 0 (a6.out.step hb));have DK:=hid (fun wx=>KN wx ⟨(S:Nat),pb,(K:Nat),0,0,0⟩);unfold Opt.val at DK;have a8:Hid (∀wx,aO Z wx->wx.cell? ⟨r,0,none⟩=some (.pointer (some ⟨g,0,none⟩))/\wx.cell? ⟨r,1,none⟩=some (.int .i64 (S:Nat))/\wx.cell? ⟨r,2,none⟩=some (.bool pb)/\wx.cell? ⟨r,3,none⟩=some (.int .i64 (K:Nat))/\wx.cell? ⟨r,4,none⟩=some (.int .i64 0)/\wx.cell? ⟨r,5,none⟩=some (.int .i64 0)/\wx.cell? ⟨r,6,none⟩=some (.int .i64 0)):=fun wx hb=>⟨(i.out.step hb).cell 0,(i.out.step hb).cell 1,(i.out.step hb).cell 2,(i.out.step hb).cell 3,(i.out.step hb).cell 4,(i.out.step hb).cell 5,(i.out.step hb).cell 6⟩;simp only at DK;generalize Dj ⟨(S:Nat),pb,(K:Nat),0,0,0⟩=oe at *;have j:=hid hE;clear hE Y;go_wp2_with fail;go_region_held3 (fun wx=>wx.cell? ⟨r,0,none⟩=some (.pointer (some ⟨g,0,none⟩))/\wx.cell? ⟨r,1,none⟩=some (.int .i64 (S:Nat))/\wx.cell? ⟨r,2,none⟩=some (.bool pb)/\wx.cell? ⟨r,3,none⟩=some (.int .i64 (K:Nat))/\wx.cell? ⟨r,4,none⟩=some (.int .i64 0)/\wx.cell? ⟨r,5,none⟩=some (.int .i64 0)/\wx.cell? ⟨r,6,none⟩=some (.int .i64 0)) (exact a8.out _ nJ) (first|(go_at_call 195;(with_reducible refine(DA.out _ nJ).mono ?_);rintro e wA ⟨rfl,rfl⟩)|(go_at_call 92;(with_reducible refine(DK.out _).mono ?_);rintro e wB ⟨rfl,az⟩;have BB:aO Z wB:=eZ az nJ))
    all_goals
     have aX:=hid BB;clear az BB;go_wp2_with fail;go_ret2;rw[j.out.1,j.out.2];exact⟨rfl,L.out.trans (Kept.of_below aX.out (fun x hx=>by have:=hx.1;have:=L.out.size;omega)),fun _=>i.out.step aX.out⟩
   ·have gE:(ce != 0)=true:=(by simpa using N);have hE:=Y.out.2 N;have j:=hid hE;have aq:=hid N;clear N hE Y;go_wp2_with fail;go_ret2;rw[j.out.1,j.out.2];exact⟨rfl,L.out,fun h=>absurd h aq.out⟩
  ·have gE:(e4 != 0)=true:=(by simpa using M);have hE:=HE.out.2 M;have j:=hid hE;have aq:=hid M;clear M hE;go_wp2_with fail;go_ret2;rw[j.out.1,j.out.2];exact⟨rfl,J.out,fun h=>absurd h aq.out⟩
 ·have gp:=iR ((1:Int)<P)
  have bB:=iR (1<P)
  have aV:=HF.out.2 bc;rw[<-aV]at ay;have U:=hid aw;have aT:=hid ae;have a7:=hid ay;have p0:=aw.cell 0;clear bc aV aw ae ay D4;obtain⟨w4,rfl⟩:=iS w3;have q2:=U.out.iO 2;have f2:=U.out.frozen 2;have aW:Blk (w4.setCell ⟨r,2,none⟩ (.bool pb)) r 213 #[.pointer (some ⟨g,0,none⟩), .int .i64 (S:Nat),pb,iT,iT,iT,iT]:=by simpa using U.out.set 2 (.bool pb)
  have ai:Cur (w4.setCell ⟨r,2,none⟩ (.bool pb)) g base ls B d a2 bp:=J8 a7.out iX U.out _ _;have am:Hid (Kept (fun x=>x<w.heap.size/\x≠r/\x≠g) w (w4.setCell ⟨r,2,none⟩ (.bool pb))):=aT.out.set (fun h=>h.2.1 rfl) _;have ax:=hid ai;have an:=hid aW;have q0:=an.out.iO 0;have D5:=hid (D5.out _ ax.out);clear aW ai a7 aT p0;go_wp2_with fail;refine D5.out.mono ?_;rintro e w5 ⟨rfl,aP,z⟩;have aY:=(z.block r ⟨an.out.lt,ac⟩).trans an.out;have aa:Hid (Blk w5 r 213 #[.pointer (some ⟨g,0,none⟩), .int .i64 (S:Nat),pb,iT,iT,iT,iT]):=aY;have z4:=am.out.size;have aS:Hid (Kept (fun x=>x<w.heap.size/\x≠r/\x≠g) w w5):=am.out.trans ⟨z.os,z.tape,z.output,z.size,fun x hx=>z.block x ⟨kR,hx.2.2⟩⟩;have a5:=hid aP;have q3:=aa.out.iO 3;have f3:=aa.out.frozen 3;have ba:Blk (w5.setCell ⟨r,3,none⟩ (.int .i64 (K:Nat))) r 213 #[.pointer (some ⟨g,0,none⟩), .int .i64 (S:Nat),pb, .int .i64 (K:Nat),iT,iT,iT]:=by simpa using aa.out.set 3 (.int .i64 (K:Nat))
  have a9:Hid (Cur (w5.setCell ⟨r,3,none⟩ (.int .i64 (K:Nat))) g base ls B d a3 e3):=J8 a5.out iX aa.out _ _;have ar:Hid (Kept (fun x=>x<w.heap.size/\x≠r/\x≠g) w (w5.setCell ⟨r,3,none⟩ (.int .i64 (K:Nat)))):=aS.out.set (fun h=>h.2.1 rfl) _;have av:=hid ba;have q6:=av.out.iO 0;have D6:=hid (D6.out _ a9.out);clear ba aY aP z a5 aS ax am D5 q0;go_wp2_with fail;refine D6.out.mono ?_;rintro e w7 ⟨v7,rfl,_,aR,E⟩;have aU:=(E.block r ⟨av.out.lt,ac⟩).trans av.out;have ak:Hid (Blk w7 r 213 #[.pointer (some ⟨g,0,none⟩), .int .i64 (S:Nat),pb, .int .i64 (K:Nat),iT,iT,iT]):=aU;have z6:=ar.out.size;have J:Hid (Kept (fun x=>x<w.heap.size/\x≠r/\x≠g) w w7):=ar.out.trans ⟨E.os,E.tape,E.output,E.size,fun x hx=>E.block x ⟨kR,hx.2.2⟩⟩;have Q:=hid aR;have q7:=ak.out.iO 0;have D7:=hid (CJ w7 g base ls B d a4 e4 Q.out);have D8:=hid (GQ w7 g base ls B d a4 e4 Q.out);have z7:=J.out.size;clear aU aR E a9 ar D6 q6 q3 f3 q2 f2;go_wp2_with fail;refine D7.out.mono ?_;rintro e w8 ⟨rfl,rfl⟩;by_cases M:e4=0
  ·subst M;have af:Row w8 w8 X a4 1 (jZ .u8 (ls.take a4)):=(Dd hX bk).keep (fun a ha=>World.cell?_of_block (a:=a) (J.out.block a.block ⟨kR,kR,kR⟩)) |>.mono kR;have D9:=JG w8 X a4 c (ls.take a4) (by rw[AN,hn];omega) kR kR (fun x hx=>h8 x (BZ hx)) (Pp ht J.out kR kR) af;unfold EL at D9;have ks:=fun wx=>CX (P:=prog) (t:=28) (s:=1) underlying28 (fun _=>by kernel_rfl) X n c .i64 (a4:Int) a4 rfl kR (fun a _=>rfl) wx;have hE:=HE.out.1 rfl;generalize vZ (ls.take a4)=co at *;generalize Bx (ls.take a4)=ce at *;have D9:=hid D9;have Y:=hid hE;clear af hE;go_wp2_with fail;refine D8.out.mono ?_;rintro e w9 ⟨rfl,rfl⟩;go_wp2_with fail;refine D9.out.mono ?_;rintro e Z ⟨bt,rfl,ag,G⟩;have L:Hid (Kept (fun x=>x<w.heap.size/\x≠r/\x≠g) w Z):=J.out.trans (Kept.of_below G (fun x hx=>by have:=hx.1;omega));have i:=hid (ak.out.step G);have a6:=hid (Q.out.step G);obtain⟨bu,bq,rfl⟩:=aZ ag;clear ag G D9 Q ak J q7;by_cases N:ce=0
   ·subst N;have hE:=Y.out.1 rfl;have DA:=hid (fun wx (hb:aO Z wx)=>GQ wx g base ls B d a4 0 (a6.out.step hb));have DK:=hid (fun wx=>KN wx ⟨(S:Nat),pb,(K:Nat),0,0,0⟩);unfold Opt.val at DK;have a8:Hid (∀wx,aO Z wx->wx.cell? ⟨r,0,none⟩=some (.pointer (some ⟨g,0,none⟩))/\wx.cell? ⟨r,1,none⟩=some (.int .i64 (S:Nat))/\wx.cell? ⟨r,2,none⟩=some (.bool pb)/\wx.cell? ⟨r,3,none⟩=some (.int .i64 (K:Nat))/\wx.cell? ⟨r,4,none⟩=some (.int .i64 0)/\wx.cell? ⟨r,5,none⟩=some (.int .i64 0)/\wx.cell? ⟨r,6,none⟩=some (.int .i64 0)):=fun wx hb=>⟨(i.out.step hb).cell 0,(i.out.step hb).cell 1,(i.out.step hb).cell 2,(i.out.step hb).cell 3,(i.out.step hb).cell 4,(i.out.step hb).cell 5,(i.out.step hb).cell 6⟩;simp only at DK;generalize Dj ⟨(S:Nat),pb,(K:Nat),0,0,0⟩=oe at *;have j:=hid hE;clear hE Y;go_wp2_with fail;go_region_held3 (fun wx=>wx.cell? ⟨r,0,none⟩=some (.pointer (some ⟨g,0,none⟩))/\wx.cell? ⟨r,1,none⟩=some (.int .i64 (S:Nat))/\wx.cell? ⟨r,2,none⟩=some (.bool pb)/\wx.cell? ⟨r,3,none⟩=some (.int .i64 (K:Nat))/\wx.cell? ⟨r,4,none⟩=some (.int .i64 0)/\wx.cell? ⟨r,5,none⟩=some (.int .i64 0)/\wx.cell? ⟨r,6,none⟩=some (.int .i64 0)) (exact a8.out _ nJ) (first|(go_at_call 195;(with_reducible refine(DA.out _ nJ).mono ?_);rintro e wA ⟨rfl,rfl⟩)|(go_at_call 92;(with_reducible refine(DK.out _).mono ?_);rintro e wB ⟨rfl,az⟩;have BB:aO Z wB:=eZ az nJ))
    all_goals
     have aX:=hid BB;clear az BB;go_wp2_with fail;go_ret2;rw[j.out.1,j.out.2];exact⟨rfl,L.out.trans (Kept.of_below aX.out (fun x hx=>by have:=hx.1;have:=L.out.size;omega)),fun _=>i.out.step aX.out⟩
   ·have gE:(ce != 0)=true:=(by simpa using N);have hE:=Y.out.2 N;have j:=hid hE;have aq:=hid N;clear N hE Y;go_wp2_with fail;go_ret2;rw[j.out.1,j.out.2];exact⟨rfl,L.out,fun h=>absurd h aq.out⟩
  ·have gE:(e4 != 0)=true:=(by simpa using M);have hE:=HE.out.2 M;have j:=hid hE;have aq:=hid M;clear M hE;go_wp2_with fail;go_ret2;rw[j.out.1,j.out.2];exact⟨rfl,J.out,fun h=>absurd h aq.out⟩
end Body
namespace Body
open Go.RowKit Mem Own Canon Nums Crc Recs
open Opts
open Go.Proofs.YtfgdoknipbpfhaaGreatDoor.One (C9 EI Sd)
open Idx (Str IxAt)
def tB(ls:List Nat):List Nat:=ls.drop (tA4 ls)
theorem MG(ls:List Nat):Cr ls=if C9 ls≠0 then C9 ls else if EI ls≠2 then 4 else if CF ls≠0 then CF ls else BO (tO ls) (tB ls):=rfl
theorem RP(h8:∀x∈ls,x<=255):tA4 ls<=ls.length:=
 GL ls _ _ _ (intA_le h8 _ (GL ls _ _ _ (intA_le h8 _ (GL ls 0 0 5 (Ba _)))))
theorem Vb(h:CF ls=0):FP ls=tA4 ls:=by
 unfold CF at h;unfold FP;split at h
 ·rename_i h1;exact absurd h h1
 ·rename_i h1;rw[Aa h1];split at h
  ·rename_i h2;exact absurd h h2
  ·rename_i h2;rw[Aa h2]
theorem BodyAt.mono{b2:Nat}{X:List Str×List (List Nat)}(h:BodyAt w base gb C S T L X F K)(hb:b2<=base):BodyAt w b2 gb C S T L X F K:=by obtain⟨vc,vs,p,q,vt,vl,vT,vL,vF,va,vals,fv,h0,h1,h2,h3,h4,h5,h6,h7⟩:=h;exact⟨vc,vs,p,q,vt,vl,vT,vL,vF,va,vals,fv,h0,iZ h1 hb,iZ h2 hb,iZ h3 hb,iZ h4 hb,⟨iZ h5.t hb,iZ h5.l hb,fun i v ids hv hi=>iZ (h5.r i v ids hv hi) hb⟩,h6.mono hb,iZ h7 hb⟩
theorem BodyAt.set{x:Nat}{cs:Array Value}{X:List Str×List (List Nat)}(h:BodyAt w base gb C S T L X F K)(hx:Blk w x 23 cs)(k:Nat)(u:Value):BodyAt (w.setCell ⟨x,k,none⟩ u) base gb C S T L X F K:=by obtain⟨vc,vs,p,q,vt,vl,vT,vL,vF,va,vals,fv,h0,h1,h2,h3,h4,h5,h6,h7⟩:=h;have far:∀ {n:Nat} {e:TypeId} {v:Value} {xs:List Value},w.ownsRow base e 1 v n xs->e≠23->(w.setCell ⟨x,k,none⟩ u).ownsRow base e 1 v n xs:=fun ho hne=>sZ ho (fZ ho hx hne) _;exact⟨vc,vs,p,q,vt,vl,vT,vL,vF,va,vals,fv,h0.far (fun e=>Blk.apart hx h0 iX e.symm) _,far h1 iX,far h2 iX,far h3 iX,far h4 iX,⟨far h5.t iX,far h5.l iX,fun i v ids hv hi=>far (h5.r i v ids hv hi) iX⟩,h6.set hx iX iX k u,far h7 iX⟩
def MX(ls:List Nat)(w:World)(e:Ending)(w':World):Prop:=
 aO w w'/\(Cr ls≠0->e= .returned (.tuple #[.agg #[iT,false,iT,iT,iT,iT], .pointer none, .int .i64 (Cr ls)]))/\
  (Cr ls=0->∃gb,e= .returned (.tuple #[(tO ls).val, .pointer (some ⟨gb,0,none⟩),iT])/\BodyAt w' w gb (Bj (wZ (tB ls))) (By (wZ (tB ls))) (AU (oN (tB ls)) (vZ (Bm (tB ls)))).1 (AU (oN (tB ls)) (vZ (Bm (tB ls)))).2.1 (Idx.ixR (tO ls).bucket.toNat (oN (tB ls)) (vZ (Cx (tB ls)))).1 (Bv (By (wZ (tB ls))) ((tB ls).take (Ci (tB ls)))) (List.replicate (By (wZ (tB ls))).length false))
theorem L5(hE:Cr ls=er)(i:er≠0)(hb:aO w w'):MX ls w (.returned (.tuple #[.agg #[iT,false,iT,iT,iT,iT], .pointer none,er])) w':=nE
theorem XV(w:World)(o:Opt)(A:Option Addr)(n c:Nat)(ls:List Nat)(hn:ls.length=n)(z:n<=100000)(hc:n<=c)(h8:∀x∈ls,x<=255)(i:A=none->n=0/\c=0)(ht:TabAt w)(ha:Row w w A n 1 (jZ .u8 ls)):
 Calls prog 13 #[o.val, .slice A n c] w (fun e w'=>∃pv,e= .returned (.tuple #[.pointer pv, .int .i64 (BO o ls)])/\aO w w'/\(BO o ls=0->∃gb,pv=some ⟨gb,0,none⟩/\BodyAt w' w gb (Bj (wZ ls)) (By (wZ ls)) (AU (oN ls) (vZ (Bm ls))).1 (AU (oN ls) (vZ (Bm ls))).2.1 (Idx.ixR o.bucket.toNat (oN ls) (vZ (Cx ls))).1 (Bv (By (wZ ls)) (ls.take (Ci ls))) (List.replicate (By (wZ ls)).length false))):=by
 refine(YW w o A n c ls hn z hc h8 i ht ha).mono ?_;rintro e w' ⟨hb,j,E⟩;by_cases h:BO o ls=0
 ·obtain⟨gb,rfl,y⟩:=E h;exact⟨_,by rw[h],hb,fun _=>⟨gb,rfl,y⟩⟩
 ·exact⟨none,j h,hb,fun h2=>absurd h2 h⟩
theorem XR(w:World)(A:Option Addr)(n c:Nat)(ls:List Nat)(hn:ls.length=n)(aV:n<=100000)(hc:n<=c)(h8:∀x∈ls,x<=255)(aa:A=none->n=0/\c=0)(ht:TabAt w)(ha:Row w w A n 1 (jZ .u8 ls)):
 Calls prog 89 #[.slice A n c] w (MX ls w):=by
 have aT:Hid (∀wx,aO w wx->Row wx wx A n 1 (jZ .u8 ls)):=fun wx h=>(ha.below h).mono h.size;have D0:=hid (fun wx (hb:aO w wx)=>Sd wx A n c ls hn aV hc h8 (aT.out wx hb));have D1:=hid (fun wx (hb:aO w wx)=>new_any wx A n c ls hn aV aa (aT.out wx hb));have HT:=hid ht;have HN:=hid hn;have H8:=hid h8;have ba:=hid aa;have HA:=hid ha;obtain⟨O,hO⟩:=iS (Cr ls);have HO:=hid hO;rw[MG]at hO;generalize C9 ls=me at *;generalize EI ls=mv at *;have N:=hid hO;clear hO ha aa h8 ht hn aT;go_enter func89,ntmps89;go_wp2_with fail;have a9:Blk (w.alloc (.cells #[iT,false,iT,iT,iT,iT] 23)) w 23 #[iT,false,iT,iT,iT,iT]:=Blk.made _ _ _;have ah:aO w (w.alloc (.cells #[iT,false,iT,iT,iT,iT] 23)):=bZ (Ag _ _);have bl:w.heap.size+1<=(w.alloc (.cells #[iT,false,iT,iT,iT,iT] 23)).heap.size:=mY
 generalize w.alloc (.cells #[iT,false,iT,iT,iT,iT] 23)=w1 at *;have HZ:=hid a9;have ae:=hid ah;have D0:=hid (D0.out w1 ah);have D1:=hid (D1.out w1 ah);clear a9 ah;refine D0.out.mono ?_;rintro e wm ⟨rfl,bg⟩;obtain rfl:=bg.symm;by_cases Y:me=0
 ·subst Y;have hO:=N.out;rw[Aa (show ¬((0:Int)≠0) from fun h=>h rfl)]at hO;by_cases Z:mv=2
  ·have gV:((mv:Int) != 2)=false:=(by rw[Z];rfl);rw[Aa (fun h=>h Z)]at hO;have ay:=hid hO;clear hO N D0 Z;go_wp2_with fail;refine D1.out.mono ?_;rintro e w2 ⟨g,B,d,rfl,aS,al⟩;have a1:=hid (HZ.out.step al);have bb:Hid (aO w w2):=ae.out.trans (al.mono kR);have z2:=al.size;have af:=hid aS;clear aS al D1 HZ ae;go_wp2_with fail;have a6:Blk (w2.alloc (.cells #[.pointer (some ⟨g,0,none⟩),iT,false,iT,iT,iT,iT] 213)) w2 213 #[.pointer (some ⟨g,0,none⟩),iT,false,iT,iT,iT,iT]:=Blk.made _ _ _;have aQ:aO w2 (w2.alloc (.cells #[.pointer (some ⟨g,0,none⟩),iT,false,iT,iT,iT,iT] 213)):=bZ (Ag _ _);have bp:w2.heap.size+1<=(w2.alloc (.cells #[.pointer (some ⟨g,0,none⟩),iT,false,iT,iT,iT,iT] 213)).heap.size:=mY;generalize w2.alloc (.cells #[.pointer (some ⟨g,0,none⟩),iT,false,iT,iT,iT,iT] 213)=w3 at *;have U:=af.out.step aQ;have bm:=af.out.blk.lt;have bj:=af.out.lo;have bf:=hid (a1.out.step aQ);have aw:Hid (aO w w3):=bb.out.trans (aQ.mono kR);have bq:w1.heap.size<=w2.heap.size:=z2;generalize w2.heap.size=r at *;have a8:=HT.out.lt;have DR:=hid (tread_any w3 r g w1 w ls B d A n c HN.out aV hc H8.out (HT.out.step aw.out) a8 (HA.out.below aw.out) ⟨kR,kR⟩ U a6);have ag:Hid (CF ls=0->FP ls=tA4 ls):=Vb;have be:tA4 ls<=n:=(by rw[<-HN.out];exact RP H8.out);generalize CF ls=he at *;obtain⟨k,hk⟩:=iS (tA4 ls);rw[<-hk]at ag be;generalize FP ls=hN at *;clear a6 aQ U af a1 bb a8;refine DR.out.mono ?_;rintro e w4 ⟨rfl,ax,ac⟩;have z4:=ax.size;have E:Hid (aO w w4):=aw.out.trans (ax.below fun b h=>⟨kR,kR,kR⟩);have Q:Hid (Blk w4 w 23 #[iT,false,iT,iT,iT,iT]):=(ax.block w ⟨kR,kR,kR⟩).trans bf.out;have ak:=hid hk;clear hk DR aw bf ax;by_cases ab:he=0
   ·subst ab;have a0:=ac rfl;obtain rfl:hN=k:=ag.out rfl;have hO:=ay.out;rw[Aa (show ¬((0:Int)≠0) from fun h=>h rfl)]at hO;have a7:(tB ls).length=n-hN:=(by unfold tB;rw[AK,HN.out,<-ak.out]);have aR:Row w w (xZ A hN c 1) (n-hN) 1 (jZ .u8 (tB ls)):=by unfold tB;rw[<-ak.out];exact Cv HA.out be hc
    have bc:xZ A hN c 1=none->n-hN=0/\c-hN=0:=fun h=>by
     unfold xZ at h;split at h
     ·exact⟨kR,kR⟩
     ·cases hA:A with
      |none=>have:=ba.out hA;omega
      |some a=>rw[hA]at h;cases h
    have D2:=hid (fun wx (hb:aO w4 wx)=>XV wx (tO ls) (xZ A hN c 1) (n-hN) (c-hN) (tB ls) a7 kR kR (fun x hx=>H8.out x (Be hx)) bc (HT.out.step (E.out.trans (hb.mono E.out.size))) ((aR.below (E.out.trans (hb.mono E.out.size))).mono (AY E.out.size hb.size)));have ks:=fun wx=>EM (P:=prog) (t:=28) (s:=1) underlying28 (fun _=>by kernel_rfl) A n c .i64 (hN:Int) hN rfl kR wx;generalize xZ A hN c 1=A1 at *;generalize n-hN=n1 at *;generalize c-hN=c1 at *;have az:=hid hO;have aj:Hid ((tO ls).val= .agg #[.int .i64 (tS ls:Nat), .bool (decide (tP ls=1)), .int .i64 (tK ls:Nat),iT,iT,iT]):=rfl;obtain⟨ov,aU⟩:=iS ((tO ls).val);rw[<-aU]at D2 aj;have bd:=hid aU;obtain⟨S,hS⟩:=iS (tS ls);obtain⟨pb,a4⟩:∃pb,pb=decide (tP ls=1):=⟨_,rfl⟩;obtain⟨K,hK⟩:=iS (tK ls);rw[<-hS,<-a4,<-hK]at a0 aj;obtain rfl:ov=_:=aj.out;have G:=hid a0;have aW:Hid (∀wx,aO w4 wx->wx.cell? ⟨r,0,none⟩=some (.pointer (some ⟨g,0,none⟩))/\wx.cell? ⟨r,1,none⟩=some (.int .i64 (S:Nat))/\wx.cell? ⟨r,2,none⟩=some (.bool pb)/\wx.cell? ⟨r,3,none⟩=some (.int .i64 (K:Nat))/\wx.cell? ⟨r,4,none⟩=some (.int .i64 0)/\wx.cell? ⟨r,5,none⟩=some (.int .i64 0)/\wx.cell? ⟨r,6,none⟩=some (.int .i64 0)):=fun wx hb=>⟨(G.out.step hb).cell 0,(G.out.step hb).cell 1,(G.out.step hb).cell 2,(G.out.step hb).cell 3,(G.out.step hb).cell 4,(G.out.step hb).cell 5,(G.out.step hb).cell 6⟩;generalize BO (tO ls) (tB ls)=oe at *;clear a0 hO a7 aR bc aU hS a4 hK aj ac ag ay HT HN H8 ba HA ak;go_wp2_with fail;go_region_held3 (fun wx=>wx.cell? ⟨r,0,none⟩=some (.pointer (some ⟨g,0,none⟩))/\wx.cell? ⟨r,1,none⟩=some (.int .i64 (S:Nat))/\wx.cell? ⟨r,2,none⟩=some (.bool pb)/\wx.cell? ⟨r,3,none⟩=some (.int .i64 (K:Nat))/\wx.cell? ⟨r,4,none⟩=some (.int .i64 0)/\wx.cell? ⟨r,5,none⟩=some (.int .i64 0)/\wx.cell? ⟨r,6,none⟩=some (.int .i64 0)) (exact aW.out _ nJ) (first|(go_at_call 13;(with_reducible refine(D2.out _ nJ).mono ?_);rintro e w5 ⟨pv,rfl,aX,aY⟩;have BB:aO w4 w5:=eZ aX nJ))
    all_goals
     have a5:Hid (aO w w5):=E.out.trans (BB.mono E.out.size);have ar:=hid (Q.out.step BB);have J:=G.out.step BB;by_cases av:oe=0
     ·subst av;obtain⟨gb,rfl,a3⟩:=aY i8;have bi:=hid (a3.mono (b2:=w.heap.size) (by show _<=w4.heap.size;exact E.out.size));have bh:Hid (Cr ls=0):=HO.out.symm.trans az.out;have j:=ar.out;obtain⟨v0,v1,v2,v3,v4,v5⟩:=j.six;obtain⟨am,au,aP,ai,an,aq⟩:=j.sixf;have s0:=J.iO 0;have s1:=J.iO 1;have s2:=J.iO 2;have s3:=J.iO 3;have s4:=J.iO 4;have s5:=J.iO 5;have s6:=J.iO 6;have z:=hid j;have bn:¬r=w.heap.size:=kR;have bk:¬w.heap.size=r:=kR;clear j J a3 aY aX BB aW G Q ar D2 az E;go_wp2_with fail;refine AV (v:= .tuple #[.agg #[.int .i64 (S:Nat),pb, .int .i64 (K:Nat),iT,iT,iT], .pointer (some ⟨gb,0,none⟩),iT]) ?_ rfl ?_
      ·have i:=((((((z.out.set 0 (.int .i64 (S:Nat))).set 1 (.bool pb)).set 2 (.int .i64 (K:Nat))).set 3 (.int .i64 0)).set 4 (.int .i64 0)).set 5 (.int .i64 0));have e0:=i.cell 0;have e1:=i.cell 1;have e2:=i.cell 2;have e3:=i.cell 3;have e4:=i.cell 4;have e5:=i.cell 5;simp at e0 e1 e2 e3 e4 e5;simp[results,results89,go_sem,e0,e1,e2,e3,e4,e5]
      ·refine⟨?_,fun h=>absurd bh.out h,fun _=>⟨gb,by rw[<-bd.out],?_⟩⟩
       ·repeat (first|((with_reducible refine kZ ?_ ?_);(focus (exact Ai _)))|(with_reducible refine Ak ?_))
        exact a5.out
       ·exact((((((bi.out.set z.out 0 (.int .i64 (S:Nat))).set (z.out.set 0 (.int .i64 (S:Nat))) 1 (.bool pb)).set ((z.out.set 0 (.int .i64 (S:Nat))).set 1 (.bool pb)) 2 (.int .i64 (K:Nat))).set (((z.out.set 0 (.int .i64 (S:Nat))).set 1 (.bool pb)).set 2 (.int .i64 (K:Nat))) 3 (.int .i64 0)).set ((((z.out.set 0 (.int .i64 (S:Nat))).set 1 (.bool pb)).set 2 (.int .i64 (K:Nat))).set 3 (.int .i64 0)) 4 (.int .i64 0)).set (((((z.out.set 0 (.int .i64 (S:Nat))).set 1 (.bool pb)).set 2 (.int .i64 (K:Nat))).set 3 (.int .i64 0)).set 4 (.int .i64 0)) 5 (.int .i64 0))
     ·have gE:(oe != 0)=true:=(by simpa using av);have HF:Hid (O=oe):=az.out;have L:=hid av;have HZ:=ar;have y:=a5;obtain⟨er,M⟩:∃er:Int,er=oe:=⟨_,rfl⟩;subst M;clear av az aY aX BB aW G Q ar D2 E J;have j:=HZ.out;obtain⟨v0,v1,v2,v3,v4,v5⟩:=j.six;obtain⟨am,au,aP,ai,an,aq⟩:=j.sixf;have z:=hid j;clear j;go_wp2_with fail;refine AV (v:= .tuple #[.agg #[iT,false,iT,iT,iT,iT], .pointer none, .int .i64 er]) ?_ rfl ?_
      ·have i:=(((((z.out.set 0 (.int .i64 0)).set 1 (.bool false)).set 2 (.int .i64 0)).set 3 (.int .i64 0)).set 4 (.int .i64 0)).set 5 (.int .i64 0);have e0:=i.cell 0;have e1:=i.cell 1;have e2:=i.cell 2;have e3:=i.cell 3;have e4:=i.cell 4;have e5:=i.cell 5;simp at e0 e1 e2 e3 e4 e5;simp[results,results89,go_sem,e0,e1,e2,e3,e4,e5]
      ·refine L5 (HO.out.symm.trans HF.out) L.out ?_
       repeat (first|((with_reducible refine kZ ?_ ?_);(focus (exact Ai _)))|(with_reducible refine Ak ?_))
       first|(with_reducible exact y.out)|(with_reducible exact Ak y.out)|(with_reducible exact below_drewN y.out _)
   ·have gE:(he != 0)=true:=ny;have HF:Hid (O=he):=(by have h:=ay.out;rw[Ab ab]at h;exact h);have L:=hid ab;have HZ:=Q;have y:=E;obtain⟨er,M⟩:∃er:Int,er=he:=⟨_,rfl⟩;subst M;clear ab ay ac Q E ag ak;have j:=HZ.out;obtain⟨v0,v1,v2,v3,v4,v5⟩:=j.six;obtain⟨am,au,aP,ai,an,aq⟩:=j.sixf;have z:=hid j;clear j;go_wp2_with fail;refine AV (v:= .tuple #[.agg #[iT,false,iT,iT,iT,iT], .pointer none, .int .i64 er]) ?_ rfl ?_
    ·have i:=(((((z.out.set 0 (.int .i64 0)).set 1 (.bool false)).set 2 (.int .i64 0)).set 3 (.int .i64 0)).set 4 (.int .i64 0)).set 5 (.int .i64 0);have e0:=i.cell 0;have e1:=i.cell 1;have e2:=i.cell 2;have e3:=i.cell 3;have e4:=i.cell 4;have e5:=i.cell 5;simp at e0 e1 e2 e3 e4 e5;simp[results,results89,go_sem,e0,e1,e2,e3,e4,e5]
    ·refine L5 (HO.out.symm.trans HF.out) L.out ?_
     repeat (first|((with_reducible refine kZ ?_ ?_);(focus (exact Ai _)))|(with_reducible refine Ak ?_))
     first|(with_reducible exact y.out)|(with_reducible exact Ak y.out)|(with_reducible exact below_drewN y.out _)
  ·have gV:((mv:Int) != 2)=true:=l7;have HF:Hid (O=4):=(by rw[Ab Z]at hO;exact hO);have L:Hid ((4:Int)≠0):=show(4:Int)≠0 by decide
   have y:=ae;clear Z hO N D0 D1;have j:=HZ.out;obtain⟨v0,v1,v2,v3,v4,v5⟩:=j.six;obtain⟨am,au,aP,ai,an,aq⟩:=j.sixf;have z:=hid j;clear j;go_wp2_with fail;refine AV (v:= .tuple #[.agg #[iT,false,iT,iT,iT,iT], .pointer none, .int .i64 4]) ?_ rfl ?_
   ·have i:=(((((z.out.set 0 (.int .i64 0)).set 1 (.bool false)).set 2 (.int .i64 0)).set 3 (.int .i64 0)).set 4 (.int .i64 0)).set 5 (.int .i64 0);have e0:=i.cell 0;have e1:=i.cell 1;have e2:=i.cell 2;have e3:=i.cell 3;have e4:=i.cell 4;have e5:=i.cell 5;simp at e0 e1 e2 e3 e4 e5;simp[results,results89,go_sem,e0,e1,e2,e3,e4,e5]
   ·refine L5 (HO.out.symm.trans HF.out) L.out ?_
    repeat (first|((with_reducible refine kZ ?_ ?_);(focus (exact Ai _)))|(with_reducible refine Ak ?_))
    first|(with_reducible exact y.out)|(with_reducible exact Ak y.out)|(with_reducible exact below_drewN y.out _)
 ·have gE:(me != 0)=true:=by simpa using Y
  have HF:Hid (O=me):=by have h:=N.out;rw[Ab Y]at h;exact h
  have L:=hid Y;have y:=ae;obtain⟨er,M⟩:∃er:Int,er=me:=⟨_,rfl⟩;subst M;clear Y N D0 D1;have j:=HZ.out;obtain⟨v0,v1,v2,v3,v4,v5⟩:=j.six;obtain⟨am,au,aP,ai,an,aq⟩:=j.sixf;have z:=hid j;clear j;go_wp2_with fail;refine AV (v:= .tuple #[.agg #[iT,false,iT,iT,iT,iT], .pointer none, .int .i64 er]) ?_ rfl ?_
  ·have i:=(((((z.out.set 0 (.int .i64 0)).set 1 (.bool false)).set 2 (.int .i64 0)).set 3 (.int .i64 0)).set 4 (.int .i64 0)).set 5 (.int .i64 0);have e0:=i.cell 0;have e1:=i.cell 1;have e2:=i.cell 2;have e3:=i.cell 3;have e4:=i.cell 4;have e5:=i.cell 5;simp at e0 e1 e2 e3 e4 e5;simp[results,results89,go_sem,e0,e1,e2,e3,e4,e5]
  ·refine L5 (HO.out.symm.trans HF.out) L.out ?_
   repeat (first|((with_reducible refine kZ ?_ ?_);(focus (exact Ai _)))|(with_reducible refine Ak ?_))
   first|(with_reducible exact y.out)|(with_reducible exact Ak y.out)|(with_reducible exact below_drewN y.out _)
end Body
namespace One
open Go.RowKit Mem Own Canon NumPut Nums Opts
open Recs (IJ)
def hP(bs:List Nat):Nat:=Dz bs (nZ 32768 bs 0 0) (oZ 32768 bs 0 0)
def hA2(bs:List Nat):Nat:=takeA bs (nZ 32768 bs 0 0) (oZ 32768 bs 0 0) 1
def hE2(bs:List Nat):Int:=Bh bs (nZ 32768 bs 0 0) (oZ 32768 bs 0 0) 1
def hE3(bs:List Nat):Int:=if 1<hP bs then Du (hE2 bs) 2 else hE2 bs
def hN(bs:List Nat):Nat:=zZ 20000 bs (hA2 bs) (hE3 bs)
end One
end Go.Proofs.YtfgdoknipbpfhaaGreatDoor
