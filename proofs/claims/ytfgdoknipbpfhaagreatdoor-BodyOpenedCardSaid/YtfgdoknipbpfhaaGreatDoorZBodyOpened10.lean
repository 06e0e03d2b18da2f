/- The walks of nums.sc -/
import Derived.Test.YtfgdoknipbpfhaaGreatDoorZBodyOpened3
import Derived.Laws.Bits64b
import Derived.Laws.EntriesVeiled
import Derived.Deep.AppendLies
namespace Go.Proofs.YtfgdoknipbpfhaaGreatDoor
open Go.Proofs.Tryz
open Go.Lib (hid)
set_option maxRecDepth 100000
variable{base c i n:Nat}{ls:List Nat}{w:World}{A:Option Addr}{xs:List Value}
namespace Nums
open Go.RowKit Mem Own Canon
def Bm:List Nat->Nat->Nat->Nat×Nat×Int
 | [],_,_=>(0,0,1)
 |c :: t,i,x=>if(i=9/\c≠1)∨(0<i/\c=0)then(0,0,2)else if c<128 then(x+c % 128*2 ^ (7*i),i+1,0)else Bm t (i+1) (x+c % 128*2 ^ (7*i))
theorem J5:∀ (l:List Nat) (i x:Nat),(∀c∈l,c<=255)->i<=9->x<2 ^ (7*i)->(Bm l i x).1<18446744073709551616/\(Bm l i x).2.1<=l.length+i/\((Bm l i x).2.2=0->i<(Bm l i x).2.1)/\((Bm l i x).2.2≠0->(Bm l i x).1=0/\(Bm l i x).2.1=0)/\0<=(Bm l i x).2.2/\(Bm l i x).2.2<=2
 | [],i,x,_,_,_=>by simp[Bm]
 |c :: t,i,x,h8,hi,hx=>by
  have hc:=h8 c pI;rw[Bm];have hp:2 ^ (7*(i+1))=128*2 ^ (7*i):=pf
  by_cases h1:(i=9/\c≠1)∨(0<i/\c=0)
  ·rw[Ae h1];simp
  ·rw[Ab h1];have hb:x+c % 128*2 ^ (7*i)<2 ^ (7*(i+1)):=(by rw[hp];have:c % 128*2 ^ (7*i)<=127*2 ^ (7*i):=Gp _ mz;omega);by_cases h2:c<128
   ·rw[Ae h2];refine⟨?_,pQ,fun _=>pI,fun h=>absurd rfl h,pI,pI⟩;by_cases h9:i=9
    ·subst h9;have:c=1:=mz;subst this;have:x<2 ^ 63:=hx;simp;omega
    ·have j:2 ^ (7*(i+1))<=2 ^ 63:=Cl mz mz;show x+c % 128*2 ^ (7*i)<_;omega
   ·rw[Ab h2];have y:i≠9:=mz;have ih:=J5 t (i+1) _ (fun d hd=>h8 d (by simp[hd])) mz hb;refine⟨ih.1,by have:=ih.2.1;simp;omega,fun h=>by have:=ih.2.2.1 h;omega,ih.2.2.2⟩
theorem QF{x t:Nat}(hx:x<2 ^ i)(h:x+t*2 ^ i<18446744073709551616):bits .or .u64 (x:Int) ((t*2 ^ i:Nat):Int)=((x+t*2 ^ i:Nat):Int):=by rw[bits_or_u64_nat x _ mz mz,Nat.mul_comm t,Nat.or_comm,<-Nat.two_pow_add_eq_or_of_lt hx];congr 1;omega
theorem Qq(w:World)(A:Option Addr)(n c:Nat)(ls:List Nat)(hn:ls.length=n)(hN:n<=100000)(h8:∀x∈ls,x<=255)(ha:Row w w A n 1 (jZ .u8 ls)):
 Calls prog 241 #[.slice A n c] w fun e w'=>e= .returned (.tuple #[.int .u64 (Bm ls 0 0).1, .int .i64 (Bm ls 0 0).2.1, .int .i64 (Bm ls 0 0).2.2])/\w'=w:=by
 have HA:=hid ha;have HN:=hid hn;have H8:=hid h8;clear ha hn h8;obtain⟨R,hR⟩:=ii (Bm ls 0 0);rw[<-hR];have HR:=hid hR;clear hR;go_enter func241,ntmps241;go_wp2_with fail;go_loopw [2,9] (fun xv i wx=>∃k x:Nat,k<=n/\k<=9/\xv= .int .u64 x/\i= .int .i64 k/\Hid (x<2 ^ (7*k))/\Hid (Bm (ls.drop k) k x=R)/\wx=w) (fun _ i _=>n-(intOf i).toNat)
 case atStart=>exact⟨0,0,mz,mz,rfl,rfl,by show _<_;simp,HR.out.symm,rfl⟩
 case round=>
  obtain⟨k,x,hk,aj,rfl,rfl,hx,hS,rfl⟩:=hrel;by_cases ac:k<n
  ·obtain⟨b,ak,y,rfl,hb,hy,hc⟩:=CF HA.out HN.out ac;have N:k<ls.length:=(by rw[HN.out];exact ac);have al:y<=255:=H8.out y (Bg hy);have hs:=hS.out;rw[Df N,Bm]at hs;rw[AD N]at hy;injection hy with hy;rw[hy]at hs;have y0:(0:Int)<=(k:Int):=mz;have y1:(k:Int)<(n:Int):=mz;by_cases h9:k=9/\y≠1
   ·rw[Ae (.inl h9)]at hs;have g1:((k:Int)==9)=true:=pQ;have g2:((y:Int) != 1)=true:=pQ;have HS:=hid hs;clear hs hS hx h9 hy N;go_wp2_with fail
    go_ret3
    exact⟨by rw[<-HS.out];rfl,rfl⟩
   ·by_cases h0:0<k/\y=0
    ·rw[Ae (.inr h0)]at hs;have g1:((k:Int)==9)=false:=oJ;have g3:=ic (0<k);have g4:((y:Int)==0)=true:=pQ;have HS:=hid hs;clear hs hS hx h9 h0 hy N;go_wp2_with fail
     go_ret3
     exact⟨by rw[<-HS.out];rfl,rfl⟩
    ·rw[Ab mz]at hs;have U:=hx.out;obtain⟨E,hE⟩:=ii (7*k);rw[<-hE]at hs U;obtain⟨c7,aa⟩:=ii (y % 128);rw[<-aa]at hs;obtain⟨x2,Q⟩:=ii (x+c7*2 ^ E);have af:2 ^ E<=2 ^ 63:=Cl mz mz;have ae:c7*2 ^ E<=127*2 ^ E:=Gp _ (by omega)
     have Y:x+c7*2 ^ E<18446744073709551616:=by
      by_cases j:k=9
      ·have:y=1:=mz;have e7:c7=1:=mz;have ah:E=63:=mz;subst ah;rw[e7];have:x<2 ^ 63:=U;omega
      ·have:2 ^ E<=2 ^ 56:=Cl mz mz;omega
     obtain⟨t2,Z⟩:=ii (c7*2 ^ E);have s1:IntKind.i64.wrap (7*(k:Int))=(E:Int):=nW
     have e1:bits .andNot .u8 (y:Int) 128=(c7:Int):=(by have h:=u8_andNot_nat y 128 mz mz;rw[show(255-128)=2 ^ 7-1 from rfl,NG]at h;rw[aa];exact h);have s2:IntKind.u64.wrap (c7:Int)=(c7:Int):=n5;have s3:IntKind.u64.wrap ((c7:Int)*2 ^ E)=(t2:Int):=(by rw[Bv,Z];have:((c7:Int)*2 ^ E)=((c7*2 ^ E:Nat):Int):=(by push_cast;rfl);rw[this];omega);have e2:bits .or .u64 (x:Int) (t2:Int)=(x2:Int):=(by rw[Z,QF U Y,Q]);rw[<-Q]at hs;have z0:(0:Int)<=(E:Int):=mz;have z1:(E:Int)<=64:=mz;have ab:x2<2 ^ (7*(k+1)):=(by rw[Q,show 7*(k+1)=E+7 by omega,Nat.pow_add];omega);have HP:=hid ab;have HS:=hid hs;have H9:Hid (k=9->y=1):=fun h=>mz
     have ag:((k:Int)==9&&(y:Int) != 1)=false∨True:= .inr trivial;clear hs hS hx U hy N Q Z aa af ae Y hE ab ag;have M:=HS;by_cases z:y<128
     ·have g5:=ic ((y:Int)<128);have g6:=ic (y<128);have hs:=HS.out;rw[Ae z]at hs;have G:=hid hs;have s5:IntKind.i64.wrap ((k:Int)+1)=(k:Int)+1:=nV;clear hs HS M z;by_cases j:k=9
      ·have g1:((k:Int)==9)=true:=pQ;have g2:((y:Int) != 1)=false:=ld;have g3:=ic (0<k);have g4:((y:Int)==0)=false:=ld;clear j h9 h0;go_wp2_with fail
       go_ret3
       exact⟨by rw[<-G.out];rfl,rfl⟩
      ·have g1:((k:Int)==9)=false:=oJ;by_cases J:k=0
       ·have g3:=ig (0<k);clear j J h9 h0;go_wp2_with fail
        go_ret3
        exact⟨by rw[<-G.out];rfl,rfl⟩
       ·have g3:=ic (0<k);have g4:((y:Int)==0)=false:=oJ;clear j J h9 h0;go_wp2_with fail
        go_ret3
        exact⟨by rw[<-G.out];rfl,rfl⟩
     ·have g5:=ig ((y:Int)<128);have g6:=ig (y<128);have hs:=HS.out;rw[Ab z]at hs;have G:=hid hs;have ai:k≠9:=fun h=>by have:=H9.out h;omega
      clear hs HS M z;by_cases j:k=9
      ·have g1:((k:Int)==9)=true:=pQ;have g2:((y:Int) != 1)=false:=ld;have g3:=ic (0<k);have g4:((y:Int)==0)=false:=ld;clear j h9 h0;go_wp2_with fail;go_roundw
       case measure=>exact jo
       case rel=>exact ji
      ·have g1:((k:Int)==9)=false:=oJ;by_cases J:k=0
       ·have g3:=ig (0<k);clear j J h9 h0;go_wp2_with fail;go_roundw
        case measure=>exact jo
        case rel=>exact ji
       ·have g3:=ic (0<k);have g4:((y:Int)==0)=false:=oJ;clear j J h9 h0;go_wp2_with fail;go_roundw
        case measure=>exact jo
        case rel=>exact ji
  ·obtain rfl:k=n:=by omega
   have hs:=hS.out;rw[Eb oq,Bm]at hs;have HS:=hid hs;clear hs hS hx;go_wp2_with fail
   go_ret3
   exact⟨by rw[<-HS.out];rfl,rfl⟩
end Nums
namespace Nums
open Go.RowKit Mem Own Canon
theorem numL_get{k:IntKind}(h:i<ls.length):(cZ k ls)[i*1+0]? =some (jZ k ls i 0):=by simp[cZ,jZ,List.getD_eq_getElem?_getD,h]
theorem own_row(h:w.ownsRow base 5 1 (.slice A ls.length c) ls.length (cZ .u8 ls)):Row w w A ls.length 1 (jZ .u8 ls):=
 Row.of_own h rfl fun i j hi hj=>by
  obtain rfl:j=0:=mz
  exact numL_get hi
theorem Jl(h:w.ownsRow base 5 1 (.slice A n c) n xs):A=none->n=0/\c=0:=(Ex h).1
theorem mW(h:w.ownsRow base 5 1 (.slice A n c) n xs):∀a,A=some a->a.add 0=a:=by
 intro a ha;subst ha;rcases h.2 with ⟨hv,_⟩|⟨g,i,cur,hv,_⟩
 ·cases hv
 ·injection hv with e1 e2 e3;injection e1 with e1;subst e1;exact Gh g 0 0
def BC(most:Nat)(ls:List Nat):Nat×Nat×Int:=
 if(Bm ls 0 0).2.2≠0 then(0,0,(Bm ls 0 0).2.2)else if most<(Bm ls 0 0).1 then(0,0,6)else Bm ls 0 0
theorem Hl(most:Nat)(ls:List Nat)(h8:∀c∈ls,c<=255):(BC most ls).1<=most/\(BC most ls).2.1<=ls.length/\((BC most ls).2.2=0->1<=(BC most ls).2.1)/\((BC most ls).2.2≠0->(BC most ls).1=0/\(BC most ls).2.1=0)/\0<=(BC most ls).2.2/\(BC most ls).2.2<=6:=by
 have h:=J5 ls 0 0 h8 mz pI;unfold BC;split
 ·rename_i he;exact⟨pI,pI,fun h0=>absurd h0 he,fun _=>⟨rfl,rfl⟩,h.2.2.2.2.1,by have:=h.2.2.2.2.2;show(Bm ls 0 0).2.2<=6;omega⟩
 ·rename_i he;split
  ·exact⟨pI,pI,fun h0=>absurd h0 ip,fun _=>⟨rfl,rfl⟩,pI,pI⟩
  ·exact⟨mz,by have:=h.2.1;omega,fun h0=>by have:=h.2.2.1 h0;omega,h.2.2.2.1,h.2.2.2.2.1,by have:=h.2.2.2.2.2;omega⟩
theorem Vz(w:World)(A:Option Addr)(n c:Nat)(ls:List Nat)(most:Nat)(h:most<=1000000000)(hn:ls.length=n)(hN:n<=100000)(h8:∀x∈ls,x<=255)(ha:Row w w A n 1 (jZ .u8 ls)):
 Calls prog 190 #[.slice A n c,most] w fun e w'=>e= .returned (.tuple #[.int .i64 (BC most ls).1, .int .i64 (BC most ls).2.1, .int .i64 (BC most ls).2.2])/\w'=w:=by
 have D:=Qq w A n c ls hn hN h8 ha;have hs:=J5 ls 0 0 h8 mz pI;unfold BC;clear hn h8 ha;generalize Bm ls 0 0=R at *;obtain⟨x,k,er⟩:=R;simp only at hs D ⊢;have hx:=hs.1;have D:=hid D;have s1:IntKind.u64.wrap (most:Int)=(most:Int):=n5
 by_cases he:er=0
 ·subst he;rw[Ab pI];by_cases hm:most<x
  ·rw[Ae hm];have g1:=ic ((most:Int)<x);have g2:=ic (most<x);clear hs hm;go_enter func190,ntmps190;go_wp2_with fail;refine D.out.mono ?_;rintro e w1 ⟨rfl,rfl⟩;go_wp2_with fail
   go_ret3
   exact⟨rfl,rfl⟩
  ·rw[Ab hm];have g1:=ig ((most:Int)<x);have g2:=ig (most<x);have s2:IntKind.i64.wrap (x:Int)=(x:Int):=nV;clear hs hm;go_enter func190,ntmps190;go_wp2_with fail;refine D.out.mono ?_;rintro e w1 ⟨rfl,rfl⟩;go_wp2_with fail
   go_ret3
   exact⟨rfl,rfl⟩
 ·rw[Ae he];have g1:(er != 0)=true:=by simpa using he
  clear hs he;go_enter func190,ntmps190;go_wp2_with fail;refine D.out.mono ?_;rintro e w1 ⟨rfl,rfl⟩;go_wp2_with fail
  go_ret3
  exact⟨rfl,rfl⟩
structure Cur (w:World) (g base:Nat) (bs:List Nat) (A:Option Addr) (c at_:Nat) (er:Int):Prop where
 blk:Blk w g 243 #[.slice A bs.length c,at_,er]
 own:w.ownsRow base 5 1 (.slice A bs.length c) bs.length (cZ .u8 bs)
 le:at_<=bs.length
 lo:base<=g
section
variable {w w':World} {g base:Nat} {bs:List Nat} {A:Option Addr} {c at_:Nat} {er:Int}
theorem Cur.drew(h:Cur w g base bs A c at_ er):Cur w.drew g base bs A c at_ er:=⟨h.blk,h.own,h.le,h.lo⟩
theorem Cur.drewN(h:Cur w g base bs A c at_ er)(q:Nat):Cur (w.drewN q) g base bs A c at_ er:=⟨h.blk,h.own,h.le,h.lo⟩
theorem Cur.step(h:Cur w g base bs A c at_ er)(hb:Below w w w'):Cur w' g base bs A c at_ er:=
 ⟨h.blk.step hb,eZ h.own (fun x hx=>hb.block x (Am h.own x hx).2),h.le,h.lo⟩
theorem Cur.cells(h:Cur w g base bs A c at_ er):w.cell? ⟨g,0,none⟩=some (.slice A bs.length c)/\w.cell? ⟨g,1,none⟩=some (.int .i64 at_)/\w.cell? ⟨g,2,none⟩=some (.int .i64 er):=⟨h.blk.cell 0,h.blk.cell 1,h.blk.cell 2⟩
theorem Cur.setErr(h:Cur w g base bs A c at_ er)(e2:Int):Cur (w.setCell ⟨g,2,none⟩ (.int .i64 e2)) g base bs A c at_ e2:=
 ⟨h.blk.set 2 _,eZ h.own (fun x hx=>AV w _ _ x (fun e=>gZ h.own h.blk ip (hx.trans (AE some e)))),h.le,h.lo⟩
theorem Cur.setAt(h:Cur w g base bs A c at_ er)(i:Nat)(h2:i<=bs.length):Cur (w.setCell ⟨g,1,none⟩ (.int .i64 i)) g base bs A c i er:=
 ⟨h.blk.set 1 _,eZ h.own (fun x hx=>AV w _ _ x (fun e=>gZ h.own h.blk ip (hx.trans (AE some e)))),h2,h.lo⟩
end
theorem new_any(w:World)(A:Option Addr)(n c:Nat)(ls:List Nat)(hn:ls.length=n)(y:n<=100000)(j:A=none->n=0/\c=0)(ha:Row w w A n 1 (jZ .u8 ls)):
 Calls prog 110 #[.slice A n c] w fun e w'=>∃g B d,e= .returned (.pointer (some ⟨g,0,none⟩))/\Cur w' g w ls B d 0 0/\Below w w w':=by
 have D:=hid (If w A n c ls hn y j ha);have HN:=hid hn;clear hn j ha;go_enter func110,ntmps110;go_wp2_with fail;refine D.out.mono ?_;rintro e w1 ⟨v,rfl,i,hb⟩;obtain⟨B,d,rfl⟩:=bZ i;have hz:=hb.size;have HO:=hid i;have HB:=hid hb;clear i hb D;go_wp2_with fail;go_ret;refine⟨w1.heap.size,B,d,rfl,⟨?_,?_,Cr _,hz⟩,mZ hz HB.out⟩
 ·rw[HN.out];exact Blk.made _ _ _
 ·have h:=HO.out.alloc (.cells #[.slice B n d,ij,ij] 243);rw[HN.out];exact h
theorem Dv(w:World)(g base:Nat)(bs:List Nat)(A:Option Addr)(c at_:Nat)(er:Int)(h:Cur w g base bs A c at_ er):
 Calls prog 113 #[.pointer (some ⟨g,0,none⟩)] w fun e w'=>e= .returned (.int .i64 er)/\w'=w:=by
 obtain⟨d0,d1,d2⟩:=h.cells;clear h;go_enter func113,ntmps113;go_wp2_with fail;go_ret;exact⟨rfl,rfl⟩
theorem Kd(w:World)(g base:Nat)(bs:List Nat)(A:Option Addr)(c at_:Nat)(er:Int)(h:Cur w g base bs A c at_ er):
 Calls prog 195 #[.pointer (some ⟨g,0,none⟩)] w fun e w'=>e= .returned (.int .i64 at_)/\w'=w:=by
 obtain⟨d0,d1,d2⟩:=h.cells;clear h;go_enter func195,ntmps195;go_wp2_with fail;go_ret;exact⟨rfl,rfl⟩
def Ga(er e2:Int):Int:=if er=0 then e2 else er
theorem GR(w:World)(g base:Nat)(bs:List Nat)(A:Option Addr)(c at_:Nat)(er e2:Int)(h:Cur w g base bs A c at_ er):
 Calls prog 186 #[.pointer (some ⟨g,0,none⟩),e2] w fun e w'=>e= .returned (.tuple #[])/\Cur w' g base bs A c at_ (Ga er e2)/\Kept (fun x=>x≠g) w w':=by
 obtain⟨d0,d1,d2⟩:=h.cells;have f2:=h.blk.frozen 2;have H:=hid h;clear h;unfold Ga;by_cases he:er=0
 ·subst he;rw[Ae rfl];go_enter func186,ntmps186;go_wp2_with fail;refine bodyPost_end (BN rfl _ _ _) rfl ?_;exact⟨rfl,H.out.setErr e2,(Kept.refl _ _).set (fun h=>h rfl) _⟩
 ·rw[Ab he];have g1:(er==0)=false:=by simpa using he
  clear he;go_enter func186,ntmps186;go_wp2_with fail;refine bodyPost_end (BN rfl _ _ _) rfl ?_;exact⟨rfl,H.out,Kept.refl _ _⟩
theorem rest_any(w:World)(g base:Nat)(bs:List Nat)(A:Option Addr)(c at_:Nat)(er:Int)(h:Cur w g base bs A c at_ er):
 Calls prog 240 #[.pointer (some ⟨g,0,none⟩)] w fun e w'=>e= .returned (.slice (AW A at_ c 1) (bs.length-at_) (c-at_))/\∃q,w'=w.drewN q:=by
 obtain⟨d0,d1,d2⟩:=h.cells;have kc:=fun wx=>Gc (P:=prog) (t:=28) (s:=1) underlying28 (fun _=>by kernel_rfl) A bs.length c .i64 (at_:Int) at_ rfl h.le wx;generalize bs.length=n at *;clear h;go_enter func240,ntmps240;go_wp2_with fail;go_quiet (fail);go_wp2_with fail;go_ret;exact⟨rfl,_,rfl⟩
end Nums
namespace Nums
open Go.RowKit Mem Own Canon
open Crc (Fe GC FG)
theorem BZ{s:Nat}{e:TypeId}{v:Value}{p:Addr}(h:w.ownsRow base e s v n xs)(hr:v.ownBlock≠some p.block)(u:Value):(w.setCell p u).ownsRow base e s v n xs:=
 eZ h fun b hb=>AV w p u b (fun e=>hr (hb.trans (AE some e)))
def BD(g:Nat)(w:World)(x:Nat):Prop:=x<w.heap.size/\x≠g
theorem LW(w:World)(g base:Nat)(bs:List Nat)(A:Option Addr)(c at_:Nat)(er:Int)(h:Cur w g base bs A c at_ er)(he:er≠0)(u:Value):
 Calls prog 188 #[.pointer (some ⟨g,0,none⟩),u] w fun e w'=>e= .returned (.bool false)/\w'=w:=by
 have D:=hid (Dv w g base bs A c at_ er h);have g1:(er != 0)=true:=p7
 clear h he;go_enter func188,ntmps188;go_wp2_with fail;refine D.out.mono ?_;rintro e w1 ⟨rfl,rfl⟩;go_wp2_with fail;go_ret;exact⟨rfl,rfl⟩
theorem LQ(w:World)(g base:Nat)(bs:List Nat)(A:Option Addr)(c at_:Nat)(h:Cur w g base bs A c at_ 0)(j:bs.length<=100000)(K:Nat)(i:Array Value)(R:Nat->Int->World->Prop)
 (hK:∀args wx,(callFunc K args).run prog wx= .ok (.enter K args) wx)
 (hs:∀q,Calls prog K (#[.slice (AW A at_ c 1) (bs.length-at_) (c-at_)]++i) (w.drewN q) fun e w'=>∃ (k:Nat) (e2:Int),e= .returned (.tuple #[.int .i64 k,e2])/\k<=100000/\Cur w' g base bs A c at_ 0/\R k e2 w'):
 Calls prog 188 #[.pointer (some ⟨g,0,none⟩), .func (.func K) #[] i] w fun e w'=>∃ (k:Nat) (e2:Int) (w2:World),R k e2 w2/\Cur w2 g base bs A c at_ 0/\
  ((e2≠0/\e= .returned (.bool false)/\w'=w2.setCell ⟨g,2,none⟩ (.int .i64 e2))∨(e2=0/\e= .returned (.bool true)/\w'=w2.setCell ⟨g,1,none⟩ (.int .i64 (at_+k:Nat)))):=by
 have D:=hid (Dv w g base bs A c at_ 0 h);have D2:=hid (rest_any w g base bs A c at_ 0 h);have y:=h.le;have HS:=hid hs;clear h hs;go_enter func188,ntmps188;go_wp2_with fail;refine D.out.mono ?_;rintro e w1 ⟨rfl,rfl⟩;go_wp2_with fail;refine D2.out.mono ?_;rintro e w2 ⟨rfl,q,rfl⟩;go_wp2_with fail;refine(HS.out q).mono ?_;rintro e w3 ⟨k,e2,rfl,hk,hc,hR⟩;obtain⟨d0,d1,d2⟩:=hc.cells;have f1:=hc.blk.frozen 1;have f2:=hc.blk.frozen 2;have HC:=hid hc;have HR:=hid hR;clear hc hR D D2 HS;by_cases he:e2=0
 ·subst he;have s1:IntKind.i64.wrap ((at_:Int)+(k:Int))=((at_+k:Nat):Int):=by rw[Aw _ mz];omega
  go_wp2_with fail;go_ret;exact⟨k,0,w3,HR.out,HC.out, .inr ⟨rfl,rfl,pI⟩⟩
 ·have g1:(e2 != 0)=true:=by simpa using he
  have HE:=hid he;clear he;go_wp2_with fail;go_ret;exact⟨k,e2,w3,HR.out,HC.out, .inl ⟨HE.out,rfl,rfl⟩⟩
def Bx(bs:List Nat)(at_:Nat)(er:Int)(n:Nat):List Nat:=if er≠0 then []else if bs.length-at_<n then []else(bs.drop at_).take n
def takeA(bs:List Nat)(at_:Nat)(er:Int)(n:Nat):Nat:=if er≠0 then at_ else if bs.length-at_<n then at_ else at_+n
def BQ(bs:List Nat)(at_:Nat)(er:Int)(n:Nat):Int:=if er≠0 then er else if bs.length-at_<n then 1 else 0
def JL(w:World)(g base:Nat)(bs:List Nat)(A:Option Addr)(c at_:Nat)(er:Int)(n:Nat)(e:Ending)(w':World):Prop:=
 ∃v,e= .returned v/\w'.ownsRow w 5 1 v (Bx bs at_ er n).length (cZ .u8 (Bx bs at_ er n))/\Cur w' g base bs A c (takeA bs at_ er n) (BQ bs at_ er n)/\Kept (BD g w) w w'
def Ku(w:World)(g ob:Nat)(bs:List Nat)(at_ n:Nat)(k:Nat)(e2:Int)(w':World):Prop:=
 Kept (fun x=>x<w.heap.size/\x≠g/\x≠ob) w w'/\(k:Int)=(if bs.length-at_<n then 0 else n)/\e2=(if bs.length-at_<n then 1 else 0)/\
  ∃v,Blk w' ob 28 #[v]/\w'.ownsRow w 5 1 v (Bx bs at_ 0 n).length (cZ .u8 (Bx bs at_ 0 n))
theorem nI(w:World)(g base nb ob:Nat)(bs:List Nat)(A:Option Addr)(c at_ n:Nat)(ai:bs.length<=100000)(hn:n<=1000000000)(h:Cur w g base bs A c at_ 0)(U:Blk w nb 3 #[n])(y:Blk w ob 28 #[()]):
 Calls prog 239 #[.slice (AW A at_ c 1) (bs.length-at_) (c-at_), .pointer (some ⟨nb,0,none⟩), .pointer (some ⟨ob,0,none⟩)] w fun e w'=>∃ (k:Nat) (e2:Int),e= .returned (.tuple #[.int .i64 k,e2])/\k<=100000/\Cur w' g base bs A c at_ 0/\Ku w g ob bs at_ n k e2 w':=by
 have d0:=U.ia 0;have d1:=y.ia 0;have f1:=y.frozen 0;have J:=Ex h.own;have aa:=h.le;have M:=Fe (own_row h.own) aa J.2;have i:=mW h.own;have Y:=Blk.apart y h.blk ip;unfold Ku;rw[show Bx bs at_ 0 n=if bs.length-at_<n then []else(bs.drop at_).take n from Ab pI];by_cases j:bs.length-at_<n
 ·rw[Ae j,Ae j,Ae j];have g0:=ig ((n:Int)<0)
  have g1:=ic (((bs.length-at_:Nat):Int)<(n:Int))
  have g2:=ic (bs.length-at_<n)
  have H:=hid h;have HO:=hid y;clear M i J j h U y;go_enter func239,ntmps239;go_wp2_with fail;go_ret2;exact⟨0,1,rfl,mz,H.out,Kept.refl _ _,rfl,rfl,_,HO.out,AK _ _ _ _⟩
 ·rw[Ab j,Ab j,Ab j];have g0:=ig ((n:Int)<0)
  have g1:=ig (((bs.length-at_:Nat):Int)<(n:Int))
  have g2:=ig (bs.length-at_<n)
  have hcut:∀a,AW A at_ c 1=some a->a.add 0=a:=by
   intro a ha;unfold AW at ha;split at ha
   ·exact i a ha
   ·cases A with
    |none=>cases ha
    |some a0=>
     have h0:=i a0 rfl;injection ha with ha;subst ha;rcases h.own.2 with ⟨hv,_⟩|⟨gg,ah,cur,hv,_⟩
     ·cases hv
     ·injection hv with e1 e2 e3;injection e1 with e1;subst e1;show Addr.add (Addr.add ⟨gg,0,none⟩ (at_*1)) 0=Addr.add ⟨gg,0,none⟩ (at_*1);rw[Gh,Gh,Bj]
  have ks:=fun wx=>FG (P:=prog) (t:=28) (s:=1) underlying28 (fun _=>by kernel_rfl) (AW A at_ c 1) (bs.length-at_) (c-at_) .i64 (n:Int) n rfl (by have:=J.2;omega) hcut wx
  have E:AW A at_ c 1=none->n=0/\c-at_=0:=by
   intro ha
   have hA:A=none:=by
    unfold AW at ha;split at ha
    ·exact ha
    ·cases A with
     |none=>rfl
     |some a=>cases ha
   have:=J.1 hA;omega
  have N:((bs.drop at_).take n).length=n:=by rw[Bd,AU];omega
  have D:=hid (If w (AW A at_ c 1) n (c-at_) ((bs.drop at_).take n) N mz E (GC M mz));have H:=hid h;have HO:=hid y;generalize ae:(bs.drop at_).take n=ls at *;have af:=hid N;generalize AW A at_ c 1=A1 at *;have ac:n<=100000:=mz
  clear M i J j h U y hcut E ae N;go_enter func239,ntmps239;go_wp2_with fail;refine D.out.mono ?_;rintro e w1 ⟨v,rfl,G,hb⟩;obtain⟨A2,c2,rfl⟩:=bZ G;have z:=HO.out.step hb;have h1:=H.out.step hb;have hz:=hb.size;have k1:=z.ia 0;have k2:=z.frozen 0;have ag:=HO.out.lt;have k0:w1.cell? ⟨nb,0,none⟩=some (.int .i64 n):=(hb.cell (p:=⟨nb,0,none⟩) (World.block_lt_of_cell? _ _ d0)).trans d0;have ab:nb≠ob:=by intro e;subst e;rw[d0]at d1;cases d1
  have k3:(w1.setCell ⟨ob,0,none⟩ (.slice A2 n c2)).cell? ⟨nb,0,none⟩=some (.int .i64 n):=by rw[World.cell?_setCell_other _ _ _ _ (by intro e;injection e with e _;exact ab e.symm)];exact k0
  have H1:=hid h1;have Q:=hid z;have Z:=hid G;have HB:=hid hb;clear h1 z G hb D HO H d0 d1 f1;go_wp2_with fail;go_ret2;refine⟨n,0,rfl,ac,?_,?_,rfl,rfl,_,Q.out.set 0 _,?_⟩
  ·exact⟨H1.out.blk.far (fun e=>Y e.symm) _,BZ H1.out.own (gZ H1.out.own Q.out ip) _,aa,H1.out.lo⟩
  ·exact(Kept.of_below HB.out (fun x hx=>hx.1)).set (fun h=>h.2.2 rfl) _
  ·rw[af.out];exact BZ Z.out (gZ Z.out Q.out ip) _
theorem JC(bs:List Nat)(at_ n:Nat):Bx bs at_ 0 n=if bs.length-at_<n then []else(bs.drop at_).take n:=Ab pI
theorem Kc(bs:List Nat)(at_ n:Nat):takeA bs at_ 0 n=if bs.length-at_<n then at_ else at_+n:=Ab pI
theorem Kb(bs:List Nat)(at_ n:Nat):BQ bs at_ 0 n=if bs.length-at_<n then 1 else 0:=Ab pI
theorem VG(bs:List Nat)(at_:Nat)(er:Int)(n:Nat):(Bx bs at_ er n).length<=n:=by
 unfold Bx;split
 ·simp
 ·split
  ·simp
  ·rw[Bd];omega
theorem zW(bs:List Nat)(at_:Nat)(er:Int)(n:Nat)(h:at_<=bs.length):takeA bs at_ er n<=bs.length:=by
 unfold takeA;split
 ·exact h
 ·split
  ·exact h
  ·omega
theorem JK(w:World)(g base:Nat)(bs:List Nat)(A:Option Addr)(c at_:Nat)(er:Int)(n:Nat)(ab:bs.length<=100000)(hn:n<=1000000000)(h:Cur w g base bs A c at_ er):
 Calls prog 187 #[.pointer (some ⟨g,0,none⟩),n] w (JL w g base bs A c at_ er n):=by
 have af:=h.blk.lt;have h2:Cur ((w.alloc (.cells #[n] 3)).alloc (.cells #[()] 28)) g base bs A c at_ er:=(h.step (aZ (Ag _ _))).step (aZ (Ag _ _));have N:Blk ((w.alloc (.cells #[n] 3)).alloc (.cells #[()] 28)) w 3 #[n]:=(Blk.made _ _ _).alloc _;have J:Blk ((w.alloc (.cells #[n] 3)).alloc (.cells #[()] 28)) (w.heap.size+1) 28 #[()]:=Blk.made_at _ _ _ pI;have U:Kept (fun x=>x<w.heap.size/\x≠g) w ((w.alloc (.cells #[n] 3)).alloc (.cells #[()] 28)):=Kept.of_below (by(repeat (with_reducible first|exact Ag _ _|assumption|refine Az ?_ |refine below_drewN ?_ _|refine qZ ?_ |refine aZ ?_ |refine dZ im ?_ |refine belA ?_ |refine rZ im ?_)):Below w w _) (fun x hx=>hx.1);have ai:((w.alloc (.cells #[n] 3)).alloc (.cells #[()] 28)).heap.size=w.heap.size+2:=pI
 have ah:=h.le;unfold JL;by_cases he:er=0
 ·subst he;have ae:∀Q wx,(callFunc 239 Q).run prog wx= .ok (.enter 239 Q) wx:=by intro Q wx;simp[callFunc,go_sem,func239];rfl
  have D:=fun w2 (hc2:Cur w2 g base bs A c at_ 0) (N:Blk w2 w 3 #[n]) (J:Blk w2 (w.heap.size+1) 28 #[()])=>LQ w2 g base bs A c at_ hc2 ab 239 #[.pointer (some ⟨w,0,none⟩), .pointer (some ⟨w.heap.size+1,0,none⟩)] (fun k e2 w'=>Ku w2 g (w.heap.size+1) bs at_ n k e2 w') ae
   (fun q=>(nI (w2.drewN q) g base w (w.heap.size+1) bs A c at_ n ab hn (hc2.drewN q) (N.drewN q) (J.drewN q)).mono fun e w' ⟨k,e2,h1,h2,h3,h4⟩=>⟨k,e2,h1,h2,h3,⟨⟨h4.1.os,h4.1.tape,h4.1.output,h4.1.size,h4.1.block⟩,h4.2⟩⟩)
  have D:=hid (D _ h2 N J);have HK:=hid U;clear ae h2 N J U;have ac:w.heap.size+1≠g:=mz
  by_cases y:bs.length-at_<n
  ·have eO:Bx bs at_ 0 n= []:=(JC _ _ _).trans (Ae y);have eA:takeA bs at_ 0 n=at_:=(Kc _ _ _).trans (Ae y);have eE:BQ bs at_ 0 n=1:=(Kb _ _ _).trans (Ae y);unfold Ku at D;rw[eO,Ae y,Ae y]at D;rw[eO,eA,eE];clear eO eA eE y;go_enter func187,ntmps187;go_wp2_with fail;refine D.out.mono ?_;rintro e w4 ⟨k,e2,w3,⟨j,aa,Z,v,z,i⟩,G,E⟩;have M:Hid (Kept (fun x=>x<w.heap.size/\x≠g) w w3):=HK.out.trans ⟨j.os,j.tape,j.output,j.size,fun x hx=>j.block x ⟨mz,hx.2,mz⟩⟩;obtain⟨va,vc,rfl⟩:=bZ i;subst Z;rcases E with ⟨_,rfl,rfl⟩|⟨h0,_,_⟩
   ·have hB:=z.far (fun e=>ac e) (p:=⟨g,2,none⟩) (.int .i64 1);have d0:=hB.ia 0;have HC:=hid (G.setErr 1);have HO:=hid (kZ (BZ (p:=⟨g,2,none⟩) i (gZ i G.blk ip) (.int .i64 1)) (show w.heap.size<=_ by omega));have Y:Hid (Kept (fun x=>x<w.heap.size/\x≠g) w (w3.setCell ⟨g,2,none⟩ (.int .i64 1))):=M.out.set (fun h=>h.2 rfl) _;generalize w3.setCell ⟨g,2,none⟩ (.int .i64 1)=w5 at *;clear hB z i G j D M HK aa;go_wp2_with fail;go_ret;exact⟨_,rfl,HO.out,HC.out,Y.out⟩
   ·cases h0
  ·have ag:n<=bs.length-at_:=mz;have eO:Bx bs at_ 0 n=(bs.drop at_).take n:=(JC _ _ _).trans (Ab y);have eA:takeA bs at_ 0 n=at_+n:=(Kc _ _ _).trans (Ab y);have eE:BQ bs at_ 0 n=0:=(Kb _ _ _).trans (Ab y);unfold Ku at D;rw[eO,Ab y,Ab y]at D;rw[eO,eA,eE];clear eO eA eE y;generalize (bs.drop at_).take n=ls at *;go_enter func187,ntmps187;go_wp2_with fail;refine D.out.mono ?_;rintro e w4 ⟨k,e2,w3,⟨j,aa,Z,v,z,i⟩,G,E⟩;have M:Hid (Kept (fun x=>x<w.heap.size/\x≠g) w w3):=HK.out.trans ⟨j.os,j.tape,j.output,j.size,fun x hx=>j.block x ⟨mz,hx.2,mz⟩⟩;obtain⟨va,vc,rfl⟩:=bZ i;subst Z;rcases E with ⟨h0,_,_⟩|⟨_,rfl,rfl⟩
   ·exact absurd rfl h0
   ·obtain rfl:k=n:=by omega
    have hB:=z.far (fun e=>ac e) (p:=⟨g,1,none⟩) (.int .i64 (at_+k:Nat));have d0:=hB.ia 0;have HC:=hid (G.setAt (at_+k) mz);have HO:=hid (kZ (BZ (p:=⟨g,1,none⟩) i (gZ i G.blk ip) (.int .i64 (at_+k:Nat))) (show w.heap.size<=_ by omega));have Y:Hid (Kept (fun x=>x<w.heap.size/\x≠g) w (w3.setCell ⟨g,1,none⟩ (.int .i64 (at_+k:Nat)))):=M.out.set (fun h=>h.2 rfl) _;generalize w3.setCell ⟨g,1,none⟩ (.int .i64 (at_+k:Nat))=w5 at *;clear hB z i G j D M HK aa;go_wp2_with fail;go_ret;exact⟨_,rfl,HO.out,HC.out,Y.out⟩
 ·have D:=hid (LW _ g base bs A c at_ er h2 he (.func (.func 239) #[] #[.pointer (some ⟨w,0,none⟩), .pointer (some ⟨w.heap.size+1,0,none⟩)]));have eO:Bx bs at_ er n= []:=Ae he;have eA:takeA bs at_ er n=at_:=Ae he;have eE:BQ bs at_ er n=er:=Ae he;rw[eO,eA,eE];have HK:=hid U;have HC:=hid h2;have d0:=J.ia 0;clear h2 N J U he eO eA eE;go_enter func187,ntmps187;go_wp2_with fail;refine D.out.mono ?_;rintro e w4 ⟨rfl,rfl⟩;go_wp2_with fail;go_ret;exact⟨_,rfl,AK _ _ _ _,HC.out,HK.out⟩
def GE(bs:List Nat)(at_:Nat)(er:Int):Nat:=if er≠0 then 0 else bs.getD at_ 0
theorem Vv(w:World)(g base:Nat)(bs:List Nat)(A:Option Addr)(c at_:Nat)(er:Int)(j:bs.length<=100000)(h:Cur w g base bs A c at_ er):
 Calls prog 219 #[.pointer (some ⟨g,0,none⟩)] w fun e w'=>e= .returned (.int .u8 (GE bs at_ er:Nat))/\Cur w' g base bs A c (takeA bs at_ er 1) (BQ bs at_ er 1)/\Kept (BD g w) w w':=by
 have D:=JK w g base bs A c at_ er 1 j mz h;unfold JL at D;by_cases hc:er=0/\at_<bs.length
 ·have hO:Bx bs at_ er 1= [bs.getD at_ 0]:=by rw[hc.1,JC,Ab mz,Df hc.2,Ar,AD hc.2];rfl
  have hV:GE bs at_ er=bs.getD at_ 0:=Ab (by simp[hc.1]);rw[hO]at D;rw[hV];have D:=hid D;clear hO hV hc h;generalize bs.getD at_ 0=x at *;go_enter func219,ntmps219;go_wp2_with fail;refine D.out.mono ?_;rintro e w1 ⟨v,rfl,i,hc,hk⟩;obtain⟨g2,c2,hv,_⟩:=i.form pI;subst hv;have c0:=i.cellAt 0 pI;simp only[cZ,List.map_cons,List.map_nil]at c0;have HC:=hid hc;have HK:=hid hk;clear i hc hk D;go_wp2_with fail;go_ret;exact⟨rfl,HC.out,HK.out⟩
 ·have hO:Bx bs at_ er 1= []:=by
   by_cases he:er=0
   ·rw[he,JC,Ae mz]
   ·exact Ae he
  have hV:GE bs at_ er=0:=by
   unfold GE;split
   ·rfl
   ·rw[Ar,Fp mz];rfl
  rw[hO]at D;rw[hV];have D:=hid D;clear hO hV hc h;go_enter func219,ntmps219;go_wp2_with fail;refine D.out.mono ?_;rintro e w1 ⟨v,rfl,i,hc,hk⟩;obtain⟨A2,c2,rfl⟩:=bZ i;have HC:=hid hc;have HK:=hid hk;simp only[List.length_nil]at i;clear i hc hk D;go_wp2_with fail;go_ret;exact⟨rfl,HC.out,HK.out⟩
def Ba(most:Nat)(bs:List Nat)(at_:Nat)(er:Int):Nat:=if er≠0 then 0 else(BC most (bs.drop at_)).1
def AM(most:Nat)(bs:List Nat)(at_:Nat)(er:Int):Nat:=if er≠0 then at_ else at_+(BC most (bs.drop at_)).2.1
def AO(most:Nat)(bs:List Nat)(at_:Nat)(er:Int):Int:=if er≠0 then er else(BC most (bs.drop at_)).2.2
theorem lL(w:World)(g base mb ob:Nat)(bs:List Nat)(A:Option Addr)(c at_ most:Nat)(N:bs.length<=100000)(h8:∀x∈bs,x<=255)(y:most<=1000000000)(h:Cur w g base bs A c at_ 0)(J:Blk w mb 3 #[most])(i:Blk w ob 3 #[ij]):
 Calls prog 189 #[.slice (AW A at_ c 1) (bs.length-at_) (c-at_), .pointer (some ⟨mb,0,none⟩), .pointer (some ⟨ob,0,none⟩)] w fun e w'=>∃ (k:Nat) (e2:Int),e= .returned (.tuple #[.int .i64 k,e2])/\k<=100000/\Cur w' g base bs A c at_ 0/\
  (Kept (fun x=>x≠ob) w w'/\k=(BC most (bs.drop at_)).2.1/\e2=(BC most (bs.drop at_)).2.2/\Blk w' ob 3 #[.int .i64 (BC most (bs.drop at_)).1]):=by
 have d0:=J.ia 0;have f1:=i.frozen 0;have d1:=i.ia 0;have G:=Ex h.own;have j:=Fe (own_row h.own) h.le G.2;have z:∀x∈bs.drop at_,x<=255:=fun x hx=>h8 x (Cb hx);have D:=Vz w (AW A at_ c 1) (bs.length-at_) (c-at_) (bs.drop at_) most y (by rw[AU]) mz z j;have M:=Hl most (bs.drop at_) z;have hk:(BC most (bs.drop at_)).2.1<=100000:=by have:=M.2.1;rw[AU]at this;omega
 generalize BC most (bs.drop at_)=R at *;have E:=Blk.apart i h.blk ip;have D:=hid D;have H:=hid h;have HO:=hid i;generalize AW A at_ c 1=A1 at *;clear j z M h i J G;go_enter func189,ntmps189;go_wp2_with fail;refine D.out.mono ?_;rintro e w1 ⟨rfl,rfl⟩;go_wp2_with fail;go_ret2;refine⟨R.2.1,R.2.2,rfl,hk,?_,(Kept.refl _ _).set (fun h=>h rfl) _,rfl,rfl,HO.out.set 0 _⟩;exact⟨H.out.blk.far (fun e=>E e.symm) _,BZ H.out.own (gZ H.out.own HO.out ip) _,H.out.le,H.out.lo⟩
theorem IG(w:World)(g base:Nat)(bs:List Nat)(A:Option Addr)(c at_:Nat)(er:Int)(most:Nat)(ae:bs.length<=100000)(h8:∀x∈bs,x<=255)(aa:most<=1000000000)(h:Cur w g base bs A c at_ er):
 Calls prog 112 #[.pointer (some ⟨g,0,none⟩),most] w fun e w'=>e= .returned (.int .i64 (Ba most bs at_ er:Nat))/\Cur w' g base bs A c (AM most bs at_ er) (AO most bs at_ er)/\Kept (BD g w) w w':=by
 have aj:=h.blk.lt;have h2:Cur ((w.alloc (.cells #[most] 3)).alloc (.cells #[ij] 3)) g base bs A c at_ er:=(h.step (aZ (Ag _ _))).step (aZ (Ag _ _));have M:Blk ((w.alloc (.cells #[most] 3)).alloc (.cells #[ij] 3)) w 3 #[most]:=(Blk.made _ _ _).alloc _;have J:Blk ((w.alloc (.cells #[most] 3)).alloc (.cells #[ij] 3)) (w.heap.size+1) 3 #[ij]:=Blk.made_at _ _ _ pI;have U:Kept (fun x=>x<w.heap.size/\x≠g) w ((w.alloc (.cells #[most] 3)).alloc (.cells #[ij] 3)):=Kept.of_below (by(repeat (with_reducible first|exact Ag _ _|assumption|refine Az ?_ |refine below_drewN ?_ _|refine qZ ?_ |refine aZ ?_ |refine dZ im ?_ |refine belA ?_ |refine rZ im ?_)):Below w w _) (fun x hx=>hx.1);have ak:=h.le;unfold BD;by_cases he:er=0
 ·subst he;have af:∀Q wx,(callFunc 189 Q).run prog wx= .ok (.enter 189 Q) wx:=by intro Q wx;simp[callFunc,go_sem,func189];rfl
  have D:=fun w2 (hc2:Cur w2 g base bs A c at_ 0) (M:Blk w2 w 3 #[most]) (J:Blk w2 (w.heap.size+1) 3 #[ij])=>LQ w2 g base bs A c at_ hc2 ae 189 #[.pointer (some ⟨w,0,none⟩), .pointer (some ⟨w.heap.size+1,0,none⟩)]
   (fun k e2 w'=>Kept (fun x=>x≠w.heap.size+1) w2 w'/\k=(BC most (bs.drop at_)).2.1/\e2=(BC most (bs.drop at_)).2.2/\Blk w' (w.heap.size+1) 3 #[.int .i64 (BC most (bs.drop at_)).1]) af
   (fun q=>(lL (w2.drewN q) g base w (w.heap.size+1) bs A c at_ most ae h8 aa (hc2.drewN q) (M.drewN q) (J.drewN q)).mono fun e w' ⟨k,e2,h1,h2,h3,h4⟩=>⟨k,e2,h1,h2,h3,⟨⟨h4.1.os,h4.1.tape,h4.1.output,h4.1.size,h4.1.block⟩,h4.2⟩⟩)
  have D:=hid (D _ h2 M J);have ag:∀x∈bs.drop at_,x<=255:=fun x hx=>h8 x (Cb hx);have ab:=Hl most (bs.drop at_) ag;rw[AU]at ab;have eV:Ba most bs at_ 0=(BC most (bs.drop at_)).1:=Ab pI;have eA:AM most bs at_ 0=at_+(BC most (bs.drop at_)).2.1:=Ab pI;have eE:AO most bs at_ 0=(BC most (bs.drop at_)).2.2:=Ab pI;rw[eV,eA,eE];generalize BC most (bs.drop at_)=R at *;have HK:=hid U;have ah:w.heap.size+1≠g:=mz
  have ac:=hid ab;clear af h2 M J U ag ab eV eA eE;by_cases hR:R.2.2=0
  ·have ai:at_+R.2.1<=bs.length:=(by have:=ac.out.2.1;omega);go_enter func112,ntmps112;go_wp2_with fail;refine D.out.mono ?_;rintro e w4 ⟨k,e2,w3,⟨i,E,z,y⟩,N,j⟩;rcases j with ⟨h0,_,_⟩|⟨_,rfl,rfl⟩
   ·exact absurd (z.trans hR) h0
   ·have G:Hid (Kept (fun x=>x<w.heap.size/\x≠g) w w3):=HK.out.trans ⟨i.os,i.tape,i.output,i.size,fun x hx=>i.block x mz⟩;have hB:=y.far (fun e=>ah e) (p:=⟨g,1,none⟩) (.int .i64 (at_+k:Nat));have d0:=hB.ia 0;have HC:=hid (N.setAt (at_+k) mz);rw[E]at HC;have Y:Hid (Kept (fun x=>x<w.heap.size/\x≠g) w (w3.setCell ⟨g,1,none⟩ (.int .i64 (at_+k:Nat)))):=G.out.set (fun h=>h.2 rfl) _;rw[<-E]at HC;have Z:Hid (Cur (w3.setCell ⟨g,1,none⟩ (.int .i64 (at_+k:Nat))) g base bs A c (at_+R.2.1) R.2.2):=oR;generalize w3.setCell ⟨g,1,none⟩ (.int .i64 (at_+k:Nat))=w5 at *;clear hB y N i D G HK E z HC hR;go_wp2_with fail;go_ret;exact⟨rfl,Z.out,Y.out⟩
  ·have hz:=ac.out.2.2.2.1 hR;go_enter func112,ntmps112;go_wp2_with fail;refine D.out.mono ?_;rintro e w4 ⟨k,e2,w3,⟨i,E,z,y⟩,N,j⟩;rcases j with ⟨_,rfl,rfl⟩|⟨h0,_,_⟩
   ·have G:Hid (Kept (fun x=>x<w.heap.size/\x≠g) w w3):=HK.out.trans ⟨i.os,i.tape,i.output,i.size,fun x hx=>i.block x mz⟩;have Z:Hid (Cur (w3.setCell ⟨g,2,none⟩ (.int .i64 e2)) g base bs A c (at_+R.2.1) R.2.2):=(by rw[hz.2,<-z];exact N.setErr e2);have Y:Hid (Kept (fun x=>x<w.heap.size/\x≠g) w (w3.setCell ⟨g,2,none⟩ (.int .i64 e2))):=G.out.set (fun h=>h.2 rfl) _;generalize w3.setCell ⟨g,2,none⟩ (.int .i64 e2)=w5 at *;have HZ:=hid hz.1;clear y N i D G HK E z hR hz;go_wp2_with fail;go_ret;exact⟨by rw[HZ.out];rfl,Z.out,Y.out⟩
   ·exact absurd (z.symm.trans h0) hR
 ·have D:=hid (LW _ g base bs A c at_ er h2 he (.func (.func 189) #[] #[.pointer (some ⟨w,0,none⟩), .pointer (some ⟨w.heap.size+1,0,none⟩)]));have eV:Ba most bs at_ er=0:=Ae he;have eA:AM most bs at_ er=at_:=Ae he;have eE:AO most bs at_ er=er:=Ae he;rw[eV,eA,eE];have HK:=hid U;have HC:=hid h2;clear h2 M J U he eV eA eE;go_enter func112,ntmps112;go_wp2_with fail;refine D.out.mono ?_;rintro e w4 ⟨rfl,rfl⟩;go_wp2_with fail;go_ret;exact⟨rfl,HC.out,HK.out⟩
end Nums
namespace Nums
open Go.RowKit Mem Own Canon
theorem PV{P:Program}{j:Array Oper}{o:Oper}{a:Act}{K:Act->World->Prop}{Q:Exit->Act->World->Prop}{E:Prop}(y:o.guard=none)(s x:Operand)(t:TypeId)
 (ho:o.op= .call {callee:= .builtin .append,args:=#[s,x],argTypes:=#[t,t] })
 (base:Nat)(e:TypeId)(i:TypeInfo)(z:Value)(size bytes:Nat)(ht:P.underlying t=some (.slice e))(hi:P.info? e=some i)(hz:i.zero=some z)
 (hsize:i.size=size)(hby:i.bytes=bytes)(hzs:z.cells.size=size)(hsz:0<size)
 (v:Value)(n:Nat)(xs:List Value)(hs:a.eval s=v)(hown:w.ownsRow base e size v n xs)
 (A:Option Addr)(m c:Nat)(news:List Value)(hx:a.eval x= .slice A m c)(hsrc:Src w A m c size news)(h1:∀u∈news,u.oneCell'=true)
 (h63:n+m<=maxLen)(hbytes:(n+m)*bytes<=140737488355328)(hbase:base<=w.heap.size)
 (h:∀A' c' w',w'.ownsRow base e size (.slice A' (n+m) c') (n+m) (xs++news)->w.grownBy w' v.ownBlock->K (a.put o.dst (.slice A' (n+m) c')) w'):
 if Region.wanted o (yielded j a.tmps)=true then Oper.wp P o a w K Q else E:=by
 have hw:Region.wanted o (yielded j a.tmps)=true:=by simp[Region.wanted,y]
 rw[Ae hw];obtain⟨v',w',hr,h2,h3,h5⟩:=Lc (P:=P) w base t o.type e i z size bytes ht hi hz hsize hby hzs hsz v n xs hown A m c news hsrc h1 h63 hbytes hbase;obtain⟨A',c',rfl⟩:=bZ h2;unfold Oper.wp execOp;simp only[ho,resolve,invoke,builtin,Sem.run_bind,Sem.run_pure,Result.andThen_ok,List.map_toArray,List.map_cons,List.map_nil,hs,hx,hr];exact h A' c' w' h2 h3
end Nums
namespace Nums
open Go.RowKit Mem Own Canon
def Hf(bs:List Nat)(at_:Nat)(er:Int):Nat:=if er≠0 then 0 else(Bm (bs.drop at_) 0 0).1
def IT(bs:List Nat)(at_:Nat)(er:Int):Nat:=if er≠0 then at_ else at_+(Bm (bs.drop at_) 0 0).2.1
def IR(bs:List Nat)(at_:Nat)(er:Int):Int:=if er≠0 then er else(Bm (bs.drop at_) 0 0).2.2
end Nums
namespace Body
open Go.RowKit Mem Own Canon Nums
theorem kM(w:World)(gb base n c:Nat)(A:Option Addr)(xs:List Value)(hc:w.cell? ⟨gb,0,none⟩=some (.slice A n c))(i:n<=3000000)(ho:w.ownsRow base 3 1 (.slice A n c) n xs)(h:∀u∈xs,u.oneCell'=true):
 Calls prog 15 #[.pointer (some ⟨gb,0,none⟩)] w fun e w'=>∃v,e= .returned v/\w'.ownsRow w 3 1 v n xs/\Below w w w':=by
 have D:=hid (WL w base A n c xs i ho h);clear ho h;go_enter func15,ntmps15;go_wp2_with fail;refine D.out.mono ?_;rintro e w1 ⟨v,rfl,ho,hb⟩;obtain⟨A1,c1,rfl⟩:=bZ ho;have HO:=hid ho;have HB:=hid hb;clear ho hb D;go_wp2_with fail;go_ret;exact⟨_,rfl,HO.out,HB.out⟩
end Body
end Go.Proofs.YtfgdoknipbpfhaaGreatDoor
