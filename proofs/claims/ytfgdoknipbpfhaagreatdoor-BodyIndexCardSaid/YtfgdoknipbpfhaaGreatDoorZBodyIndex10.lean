/- The walks of nums.sc -/
import Derived.Test.YtfgdoknipbpfhaaGreatDoorZBodyIndex3
import Derived.Laws.Bits64b
import Derived.Laws.EntriesVeiled
import Derived.Deep.AppendLies
namespace Go.Proofs.YtfgdoknipbpfhaaGreatDoor
open Go.Proofs.Tryz
open Go.Lib (hid)
set_option maxRecDepth 100000
variable{base c i n:Nat}{ls:List Nat}{w:World}{A:Option Addr}{xs:List Value}
namespace Nums
open Go.RowKit Mem Own Canon
def Bt:List Nat->Nat->Nat->Nat×Nat×Int
 | [],_,_=>(0,0,1)
 |c :: t,i,x=>if(i=9/\c≠1)∨(0<i/\c=0)then(0,0,2)else if c<128 then(x+c % 128*2 ^ (7*i),i+1,0)else Bt t (i+1) (x+c % 128*2 ^ (7*i))
theorem JP:∀ (l:List Nat) (i x:Nat),(∀c∈l,c<=255)->i<=9->x<2 ^ (7*i)->(Bt l i x).1<18446744073709551616/\(Bt l i x).2.1<=l.length+i/\((Bt l i x).2.2=0->i<(Bt l i x).2.1)/\((Bt l i x).2.2≠0->(Bt l i x).1=0/\(Bt l i x).2.1=0)/\0<=(Bt l i x).2.2/\(Bt l i x).2.2<=2
 | [],i,x,_,_,_=>by simp[Bt]
 |c :: t,i,x,h8,hi,hx=>by
  have hc:=h8 c pR;rw[Bt];have hp:2 ^ (7*(i+1))=128*2 ^ (7*i):=pm
  by_cases h1:(i=9/\c≠1)∨(0<i/\c=0)
  ·rw[Ag h1];simp
  ·rw[Ae h1];have hb:x+c % 128*2 ^ (7*i)<2 ^ (7*(i+1)):=(by rw[hp];have:c % 128*2 ^ (7*i)<=127*2 ^ (7*i):=GG _ nB;omega);by_cases h2:c<128
   ·rw[Ag h2];refine⟨?_,p5,fun _=>pR,fun h=>absurd rfl h,pR,pR⟩;by_cases h9:i=9
    ·subst h9;have:c=1:=nB;subst this;have:x<2 ^ 63:=hx;simp;omega
    ·have j:2 ^ (7*(i+1))<=2 ^ 63:=Cf nB nB;show x+c % 128*2 ^ (7*i)<_;omega
   ·rw[Ae h2];have E:i≠9:=nB;have ih:=JP t (i+1) _ (fun d hd=>h8 d (by simp[hd])) nB hb;refine⟨ih.1,by have:=ih.2.1;simp;omega,fun h=>by have:=ih.2.2.1 h;omega,ih.2.2.2⟩
theorem Ve{x t:Nat}(hx:x<2 ^ i)(h:x+t*2 ^ i<18446744073709551616):bits .or .u64 (x:Int) ((t*2 ^ i:Nat):Int)=((x+t*2 ^ i:Nat):Int):=by rw[bits_or_u64_nat x _ nB nB,Nat.mul_comm t,Nat.or_comm,<-Nat.two_pow_add_eq_or_of_lt hx];congr 1;omega
theorem U1(w:World)(A:Option Addr)(n c:Nat)(ls:List Nat)(hn:ls.length=n)(hN:n<=100000)(h8:∀x∈ls,x<=255)(ha:Row w w A n 1 (kZ .u8 ls)):
 Calls prog 241 #[.slice A n c] w fun e w'=>e= .returned (.tuple #[.int .u64 (Bt ls 0 0).1, .int .i64 (Bt ls 0 0).2.1, .int .i64 (Bt ls 0 0).2.2])/\w'=w:=by
 have HA:=hid ha;have HN:=hid hn;have H8:=hid h8;clear ha hn h8;obtain⟨R,hR⟩:=jc (Bt ls 0 0);rw[<-hR];have HR:=hid hR;clear hR;go_enter func241,ntmps241;go_wp2_with fail;go_loopw [2,9] (fun xv i wx=>∃k x:Nat,k<=n/\k<=9/\xv= .int .u64 x/\i= .int .i64 k/\Hid (x<2 ^ (7*k))/\Hid (Bt (ls.drop k) k x=R)/\wx=w) (fun _ i _=>n-(intOf i).toNat)
 case atStart=>exact⟨0,0,nB,nB,rfl,rfl,by show _<_;simp,HR.out.symm,rfl⟩
 case round=>
  obtain⟨k,x,hk,ak,rfl,rfl,hx,hS,rfl⟩:=hrel;by_cases ae:k<n
  ·obtain⟨b,aj,y,rfl,hb,hy,hc⟩:=Dg HA.out HN.out ae;have N:k<ls.length:=(by rw[HN.out];exact ae);have al:y<=255:=H8.out y (AY hy);have hs:=hS.out;rw[Dx N,Bt]at hs;rw[AD N]at hy;injection hy with hy;rw[hy]at hs;have y0:(0:Int)<=(k:Int):=nB;have y1:(k:Int)<(n:Int):=nB;by_cases h9:k=9/\y≠1
   ·rw[Ag (.inl h9)]at hs;have g1:((k:Int)==9)=true:=p5;have g2:((y:Int) != 1)=true:=p5;have HS:=hid hs;clear hs hS hx h9 hy N;go_wp2_with fail
    go_ret3
    exact⟨by rw[<-HS.out];rfl,rfl⟩
   ·by_cases h0:0<k/\y=0
    ·rw[Ag (.inr h0)]at hs;have g1:((k:Int)==9)=false:=oJ;have g3:=ja (0<k);have g4:((y:Int)==0)=true:=p5;have HS:=hid hs;clear hs hS hx h9 h0 hy N;go_wp2_with fail
     go_ret3
     exact⟨by rw[<-HS.out];rfl,rfl⟩
    ·rw[Ae nB]at hs;have U:=hx.out;obtain⟨E,hE⟩:=jc (7*k);rw[<-hE]at hs U;obtain⟨c7,Z⟩:=jc (y % 128);rw[<-Z]at hs;obtain⟨x2,Q⟩:=jc (x+c7*2 ^ E);have ab:2 ^ E<=2 ^ 63:=Cf nB nB;have af:c7*2 ^ E<=127*2 ^ E:=GG _ (by omega)
     have Y:x+c7*2 ^ E<18446744073709551616:=by
      by_cases j:k=9
      ·have:y=1:=nB;have e7:c7=1:=nB;have ah:E=63:=nB;subst ah;rw[e7];have:x<2 ^ 63:=U;omega
      ·have:2 ^ E<=2 ^ 56:=Cf nB nB;omega
     obtain⟨t2,aa⟩:=jc (c7*2 ^ E);have s1:IntKind.i64.wrap (7*(k:Int))=(E:Int):=nX
     have e1:bits .andNot .u8 (y:Int) 128=(c7:Int):=(by have h:=u8_andNot_nat y 128 nB nB;rw[show(255-128)=2 ^ 7-1 from rfl,NF]at h;rw[Z];exact h);have s2:IntKind.u64.wrap (c7:Int)=(c7:Int):=n4;have s3:IntKind.u64.wrap ((c7:Int)*2 ^ E)=(t2:Int):=(by rw[Bj,aa];have:((c7:Int)*2 ^ E)=((c7*2 ^ E:Nat):Int):=(by push_cast;rfl);rw[this];omega);have e2:bits .or .u64 (x:Int) (t2:Int)=(x2:Int):=(by rw[aa,Ve U Y,Q]);rw[<-Q]at hs;have z0:(0:Int)<=(E:Int):=nB;have z1:(E:Int)<=64:=nB;have ac:x2<2 ^ (7*(k+1)):=(by rw[Q,show 7*(k+1)=E+7 by omega,Nat.pow_add];omega);have HP:=hid ac;have HS:=hid hs;have H9:Hid (k=9->y=1):=fun h=>nB
     have ag:((k:Int)==9&&(y:Int) != 1)=false∨True:= .inr trivial;clear hs hS hx U hy N Q aa Z ab af Y hE ac ag;have M:=HS;by_cases G:y<128
     ·have g5:=ja ((y:Int)<128);have g6:=ja (y<128);have hs:=HS.out;rw[Ag G]at hs;have J:=hid hs;have s5:IntKind.i64.wrap ((k:Int)+1)=(k:Int)+1:=nW;clear hs HS M G;by_cases j:k=9
      ·have g1:((k:Int)==9)=true:=p5;have g2:((y:Int) != 1)=false:=mO;have g3:=ja (0<k);have g4:((y:Int)==0)=false:=mO;clear j h9 h0;go_wp2_with fail
       go_ret3
       exact⟨by rw[<-J.out];rfl,rfl⟩
      ·have g1:((k:Int)==9)=false:=oJ;by_cases L:k=0
       ·have g3:=jb (0<k);clear j L h9 h0;go_wp2_with fail
        go_ret3
        exact⟨by rw[<-J.out];rfl,rfl⟩
       ·have g3:=ja (0<k);have g4:((y:Int)==0)=false:=oJ;clear j L h9 h0;go_wp2_with fail
        go_ret3
        exact⟨by rw[<-J.out];rfl,rfl⟩
     ·have g5:=jb ((y:Int)<128);have g6:=jb (y<128);have hs:=HS.out;rw[Ae G]at hs;have J:=hid hs;have ai:k≠9:=fun h=>by have:=H9.out h;omega
      clear hs HS M G;by_cases j:k=9
      ·have g1:((k:Int)==9)=true:=p5;have g2:((y:Int) != 1)=false:=mO;have g3:=ja (0<k);have g4:((y:Int)==0)=false:=mO;clear j h9 h0;go_wp2_with fail;go_roundw
       case measure=>exact ld
       case rel=>exact kq
      ·have g1:((k:Int)==9)=false:=oJ;by_cases L:k=0
       ·have g3:=jb (0<k);clear j L h9 h0;go_wp2_with fail;go_roundw
        case measure=>exact ld
        case rel=>exact kq
       ·have g3:=ja (0<k);have g4:((y:Int)==0)=false:=oJ;clear j L h9 h0;go_wp2_with fail;go_roundw
        case measure=>exact ld
        case rel=>exact kq
  ·obtain rfl:k=n:=by omega
   have hs:=hS.out;rw[CF oz,Bt]at hs;have HS:=hid hs;clear hs hS hx;go_wp2_with fail
   go_ret3
   exact⟨by rw[<-HS.out];rfl,rfl⟩
end Nums
namespace Nums
open Go.RowKit Mem Own Canon
theorem numL_get{k:IntKind}(h:i<ls.length):(bZ k ls)[i*1+0]? =some (kZ k ls i 0):=by simp[bZ,kZ,List.getD_eq_getElem?_getD,h]
theorem own_row(h:w.ownsRow base 5 1 (.slice A ls.length c) ls.length (bZ .u8 ls)):Row w w A ls.length 1 (kZ .u8 ls):=
 Row.of_own h rfl fun i j hi hj=>by
  obtain rfl:j=0:=nB
  exact numL_get hi
theorem Jj(h:w.ownsRow base 5 1 (.slice A n c) n xs):A=none->n=0/\c=0:=(Ew h).1
theorem jP(h:w.ownsRow base 5 1 (.slice A n c) n xs):∀a,A=some a->a.add 0=a:=by
 intro a ha;subst ha;rcases h.2 with ⟨hv,_⟩|⟨g,i,cur,hv,_⟩
 ·cases hv
 ·injection hv with e1 e2 e3;injection e1 with e1;subst e1;exact Gx g 0 0
def BM(most:Nat)(ls:List Nat):Nat×Nat×Int:=
 if(Bt ls 0 0).2.2≠0 then(0,0,(Bt ls 0 0).2.2)else if most<(Bt ls 0 0).1 then(0,0,6)else Bt ls 0 0
theorem Hv(most:Nat)(ls:List Nat)(h8:∀c∈ls,c<=255):(BM most ls).1<=most/\(BM most ls).2.1<=ls.length/\((BM most ls).2.2=0->1<=(BM most ls).2.1)/\((BM most ls).2.2≠0->(BM most ls).1=0/\(BM most ls).2.1=0)/\0<=(BM most ls).2.2/\(BM most ls).2.2<=6:=by
 have h:=JP ls 0 0 h8 nB pR;unfold BM;split
 ·rename_i he;exact⟨pR,pR,fun h0=>absurd h0 he,fun _=>⟨rfl,rfl⟩,h.2.2.2.2.1,by have:=h.2.2.2.2.2;show(Bt ls 0 0).2.2<=6;omega⟩
 ·rename_i he;split
  ·exact⟨pR,pR,fun h0=>absurd h0 ji,fun _=>⟨rfl,rfl⟩,pR,pR⟩
  ·exact⟨nB,by have:=h.2.1;omega,fun h0=>by have:=h.2.2.1 h0;omega,h.2.2.2.1,h.2.2.2.2.1,by have:=h.2.2.2.2.2;omega⟩
theorem TI(w:World)(A:Option Addr)(n c:Nat)(ls:List Nat)(most:Nat)(h:most<=1000000000)(hn:ls.length=n)(hN:n<=100000)(h8:∀x∈ls,x<=255)(ha:Row w w A n 1 (kZ .u8 ls)):
 Calls prog 190 #[.slice A n c,most] w fun e w'=>e= .returned (.tuple #[.int .i64 (BM most ls).1, .int .i64 (BM most ls).2.1, .int .i64 (BM most ls).2.2])/\w'=w:=by
 have D:=U1 w A n c ls hn hN h8 ha;have hs:=JP ls 0 0 h8 nB pR;unfold BM;clear hn h8 ha;generalize Bt ls 0 0=R at *;obtain⟨x,k,er⟩:=R;simp only at hs D ⊢;have hx:=hs.1;have D:=hid D;have s1:IntKind.u64.wrap (most:Int)=(most:Int):=n4
 by_cases he:er=0
 ·subst he;rw[Ae pR];by_cases hm:most<x
  ·rw[Ag hm];have g1:=ja ((most:Int)<x);have g2:=ja (most<x);clear hs hm;go_enter func190,ntmps190;go_wp2_with fail;refine D.out.mono ?_;rintro e w1 ⟨rfl,rfl⟩;go_wp2_with fail
   go_ret3
   exact⟨rfl,rfl⟩
  ·rw[Ae hm];have g1:=jb ((most:Int)<x);have g2:=jb (most<x);have s2:IntKind.i64.wrap (x:Int)=(x:Int):=nW;clear hs hm;go_enter func190,ntmps190;go_wp2_with fail;refine D.out.mono ?_;rintro e w1 ⟨rfl,rfl⟩;go_wp2_with fail
   go_ret3
   exact⟨rfl,rfl⟩
 ·rw[Ag he];have g1:(er != 0)=true:=by simpa using he
  clear hs he;go_enter func190,ntmps190;go_wp2_with fail;refine D.out.mono ?_;rintro e w1 ⟨rfl,rfl⟩;go_wp2_with fail
  go_ret3
  exact⟨rfl,rfl⟩
structure Cur (w:World) (g base:Nat) (bs:List Nat) (A:Option Addr) (c at_:Nat) (er:Int):Prop where
 blk:Blk w g 243 #[.slice A bs.length c,at_,er]
 own:w.ownsRow base 5 1 (.slice A bs.length c) bs.length (bZ .u8 bs)
 le:at_<=bs.length
 lo:base<=g
section
variable {w w':World} {g base:Nat} {bs:List Nat} {A:Option Addr} {c at_:Nat} {er:Int}
theorem Cur.drew(h:Cur w g base bs A c at_ er):Cur w.drew g base bs A c at_ er:=⟨h.blk,h.own,h.le,h.lo⟩
theorem Cur.drewN(h:Cur w g base bs A c at_ er)(q:Nat):Cur (w.drewN q) g base bs A c at_ er:=⟨h.blk,h.own,h.le,h.lo⟩
theorem Cur.step(h:Cur w g base bs A c at_ er)(hb:Below w w w'):Cur w' g base bs A c at_ er:=
 ⟨h.blk.step hb,eZ h.own (fun x hx=>hb.block x (Ai h.own x hx).2),h.le,h.lo⟩
theorem Cur.cells(h:Cur w g base bs A c at_ er):w.cell? ⟨g,0,none⟩=some (.slice A bs.length c)/\w.cell? ⟨g,1,none⟩=some (.int .i64 at_)/\w.cell? ⟨g,2,none⟩=some (.int .i64 er):=⟨h.blk.cell 0,h.blk.cell 1,h.blk.cell 2⟩
theorem Cur.setErr(h:Cur w g base bs A c at_ er)(e2:Int):Cur (w.setCell ⟨g,2,none⟩ (.int .i64 e2)) g base bs A c at_ e2:=
 ⟨h.blk.set 2 _,eZ h.own (fun x hx=>Be w _ _ x (fun e=>iZ h.own h.blk ji (hx.trans (AM some e)))),h.le,h.lo⟩
theorem Cur.setAt(h:Cur w g base bs A c at_ er)(i:Nat)(h2:i<=bs.length):Cur (w.setCell ⟨g,1,none⟩ (.int .i64 i)) g base bs A c i er:=
 ⟨h.blk.set 1 _,eZ h.own (fun x hx=>Be w _ _ x (fun e=>iZ h.own h.blk ji (hx.trans (AM some e)))),h2,h.lo⟩
end
theorem new_any(w:World)(A:Option Addr)(n c:Nat)(ls:List Nat)(hn:ls.length=n)(E:n<=100000)(j:A=none->n=0/\c=0)(ha:Row w w A n 1 (kZ .u8 ls)):
 Calls prog 110 #[.slice A n c] w fun e w'=>∃g B d,e= .returned (.pointer (some ⟨g,0,none⟩))/\Cur w' g w ls B d 0 0/\Below w w w':=by
 have D:=hid (IM w A n c ls hn E j ha);have HN:=hid hn;clear hn j ha;go_enter func110,ntmps110;go_wp2_with fail;refine D.out.mono ?_;rintro e w1 ⟨v,rfl,i,hb⟩;obtain⟨B,d,rfl⟩:=aZ i;have hz:=hb.size;have HO:=hid i;have HB:=hid hb;clear i hb D;go_wp2_with fail;go_ret;refine⟨w1.heap.size,B,d,rfl,⟨?_,?_,Da _,hz⟩,mZ hz HB.out⟩
 ·rw[HN.out];exact Blk.made _ _ _
 ·have h:=HO.out.alloc (.cells #[.slice B n d,jd,jd] 243);rw[HN.out];exact h
theorem Ej(w:World)(g base:Nat)(bs:List Nat)(A:Option Addr)(c at_:Nat)(er:Int)(h:Cur w g base bs A c at_ er):
 Calls prog 113 #[.pointer (some ⟨g,0,none⟩)] w fun e w'=>e= .returned (.int .i64 er)/\w'=w:=by
 obtain⟨d0,d1,d2⟩:=h.cells;clear h;go_enter func113,ntmps113;go_wp2_with fail;go_ret;exact⟨rfl,rfl⟩
theorem JK(w:World)(g base:Nat)(bs:List Nat)(A:Option Addr)(c at_:Nat)(er:Int)(h:Cur w g base bs A c at_ er):
 Calls prog 195 #[.pointer (some ⟨g,0,none⟩)] w fun e w'=>e= .returned (.int .i64 at_)/\w'=w:=by
 obtain⟨d0,d1,d2⟩:=h.cells;clear h;go_enter func195,ntmps195;go_wp2_with fail;go_ret;exact⟨rfl,rfl⟩
def Gq(er e2:Int):Int:=if er=0 then e2 else er
theorem Hf(w:World)(g base:Nat)(bs:List Nat)(A:Option Addr)(c at_:Nat)(er e2:Int)(h:Cur w g base bs A c at_ er):
 Calls prog 186 #[.pointer (some ⟨g,0,none⟩),e2] w fun e w'=>e= .returned (.tuple #[])/\Cur w' g base bs A c at_ (Gq er e2)/\Kept (fun x=>x≠g) w w':=by
 obtain⟨d0,d1,d2⟩:=h.cells;have f2:=h.blk.frozen 2;have H:=hid h;clear h;unfold Gq;by_cases he:er=0
 ·subst he;rw[Ag rfl];go_enter func186,ntmps186;go_wp2_with fail;refine bodyPost_end (FD rfl _ _ _) rfl ?_;exact⟨rfl,H.out.setErr e2,(Kept.refl _ _).set (fun h=>h rfl) _⟩
 ·rw[Ae he];have g1:(er==0)=false:=by simpa using he
  clear he;go_enter func186,ntmps186;go_wp2_with fail;refine bodyPost_end (FD rfl _ _ _) rfl ?_;exact⟨rfl,H.out,Kept.refl _ _⟩
theorem rest_any(w:World)(g base:Nat)(bs:List Nat)(A:Option Addr)(c at_:Nat)(er:Int)(h:Cur w g base bs A c at_ er):
 Calls prog 240 #[.pointer (some ⟨g,0,none⟩)] w fun e w'=>e= .returned (.slice (Ba A at_ c 1) (bs.length-at_) (c-at_))/\∃q,w'=w.drewN q:=by
 obtain⟨d0,d1,d2⟩:=h.cells;have kc:=fun wx=>Gg (P:=prog) (t:=28) (s:=1) underlying28 (fun _=>by kernel_rfl) A bs.length c .i64 (at_:Int) at_ rfl h.le wx;generalize bs.length=n at *;clear h;go_enter func240,ntmps240;go_wp2_with fail;go_quiet (fail);go_wp2_with fail;go_ret;exact⟨rfl,_,rfl⟩
end Nums
namespace Nums
open Go.RowKit Mem Own Canon
open Crc (Fy GO FB)
theorem Cb{s:Nat}{e:TypeId}{v:Value}{p:Addr}(h:w.ownsRow base e s v n xs)(hr:v.ownBlock≠some p.block)(u:Value):(w.setCell p u).ownsRow base e s v n xs:=
 eZ h fun b hb=>Be w p u b (fun e=>hr (hb.trans (AM some e)))
def BL(g:Nat)(w:World)(x:Nat):Prop:=x<w.heap.size/\x≠g
theorem Ma(w:World)(g base:Nat)(bs:List Nat)(A:Option Addr)(c at_:Nat)(er:Int)(h:Cur w g base bs A c at_ er)(he:er≠0)(u:Value):
 Calls prog 188 #[.pointer (some ⟨g,0,none⟩),u] w fun e w'=>e= .returned (.bool false)/\w'=w:=by
 have D:=hid (Ej w g base bs A c at_ er h);have g1:(er != 0)=true:=qj
 clear h he;go_enter func188,ntmps188;go_wp2_with fail;refine D.out.mono ?_;rintro e w1 ⟨rfl,rfl⟩;go_wp2_with fail;go_ret;exact⟨rfl,rfl⟩
theorem MW(w:World)(g base:Nat)(bs:List Nat)(A:Option Addr)(c at_:Nat)(h:Cur w g base bs A c at_ 0)(j:bs.length<=100000)(K:Nat)(i:Array Value)(R:Nat->Int->World->Prop)
 (hK:∀args wx,(callFunc K args).run prog wx= .ok (.enter K args) wx)
 (hs:∀q,Calls prog K (#[.slice (Ba A at_ c 1) (bs.length-at_) (c-at_)]++i) (w.drewN q) fun e w'=>∃ (k:Nat) (e2:Int),e= .returned (.tuple #[.int .i64 k,e2])/\k<=100000/\Cur w' g base bs A c at_ 0/\R k e2 w'):
 Calls prog 188 #[.pointer (some ⟨g,0,none⟩), .func (.func K) #[] i] w fun e w'=>∃ (k:Nat) (e2:Int) (w2:World),R k e2 w2/\Cur w2 g base bs A c at_ 0/\
  ((e2≠0/\e= .returned (.bool false)/\w'=w2.setCell ⟨g,2,none⟩ (.int .i64 e2))∨(e2=0/\e= .returned (.bool true)/\w'=w2.setCell ⟨g,1,none⟩ (.int .i64 (at_+k:Nat)))):=by
 have D:=hid (Ej w g base bs A c at_ 0 h);have D2:=hid (rest_any w g base bs A c at_ 0 h);have E:=h.le;have HS:=hid hs;clear h hs;go_enter func188,ntmps188;go_wp2_with fail;refine D.out.mono ?_;rintro e w1 ⟨rfl,rfl⟩;go_wp2_with fail;refine D2.out.mono ?_;rintro e w2 ⟨rfl,q,rfl⟩;go_wp2_with fail;refine(HS.out q).mono ?_;rintro e w3 ⟨k,e2,rfl,hk,hc,hR⟩;obtain⟨d0,d1,d2⟩:=hc.cells;have f1:=hc.blk.frozen 1;have f2:=hc.blk.frozen 2;have HC:=hid hc;have HR:=hid hR;clear hc hR D D2 HS;by_cases he:e2=0
 ·subst he;have s1:IntKind.i64.wrap ((at_:Int)+(k:Int))=((at_+k:Nat):Int):=by rw[Az _ nB];omega
  go_wp2_with fail;go_ret;exact⟨k,0,w3,HR.out,HC.out, .inr ⟨rfl,rfl,pR⟩⟩
 ·have g1:(e2 != 0)=true:=by simpa using he
  have HE:=hid he;clear he;go_wp2_with fail;go_ret;exact⟨k,e2,w3,HR.out,HC.out, .inl ⟨HE.out,rfl,rfl⟩⟩
def BJ(bs:List Nat)(at_:Nat)(er:Int)(n:Nat):List Nat:=if er≠0 then []else if bs.length-at_<n then []else(bs.drop at_).take n
def takeA(bs:List Nat)(at_:Nat)(er:Int)(n:Nat):Nat:=if er≠0 then at_ else if bs.length-at_<n then at_ else at_+n
def Cj(bs:List Nat)(at_:Nat)(er:Int)(n:Nat):Int:=if er≠0 then er else if bs.length-at_<n then 1 else 0
def JZ(w:World)(g base:Nat)(bs:List Nat)(A:Option Addr)(c at_:Nat)(er:Int)(n:Nat)(e:Ending)(w':World):Prop:=
 ∃v,e= .returned v/\w'.ownsRow w 5 1 v (BJ bs at_ er n).length (bZ .u8 (BJ bs at_ er n))/\Cur w' g base bs A c (takeA bs at_ er n) (Cj bs at_ er n)/\Kept (BL g w) w w'
def LD(w:World)(g ob:Nat)(bs:List Nat)(at_ n:Nat)(k:Nat)(e2:Int)(w':World):Prop:=
 Kept (fun x=>x<w.heap.size/\x≠g/\x≠ob) w w'/\(k:Int)=(if bs.length-at_<n then 0 else n)/\e2=(if bs.length-at_<n then 1 else 0)/\
  ∃v,Blk w' ob 28 #[v]/\w'.ownsRow w 5 1 v (BJ bs at_ 0 n).length (bZ .u8 (BJ bs at_ 0 n))
theorem iS(w:World)(g base nb ob:Nat)(bs:List Nat)(A:Option Addr)(c at_ n:Nat)(ai:bs.length<=100000)(hn:n<=1000000000)(h:Cur w g base bs A c at_ 0)(Y:Blk w nb 3 #[n])(E:Blk w ob 28 #[()]):
 Calls prog 239 #[.slice (Ba A at_ c 1) (bs.length-at_) (c-at_), .pointer (some ⟨nb,0,none⟩), .pointer (some ⟨ob,0,none⟩)] w fun e w'=>∃ (k:Nat) (e2:Int),e= .returned (.tuple #[.int .i64 k,e2])/\k<=100000/\Cur w' g base bs A c at_ 0/\LD w g ob bs at_ n k e2 w':=by
 have d0:=Y.iy 0;have d1:=E.iy 0;have f1:=E.frozen 0;have L:=Ew h.own;have Z:=h.le;have N:=Fy (own_row h.own) Z L.2;have i:=jP h.own;have ab:=Blk.apart E h.blk ji;unfold LD;rw[show BJ bs at_ 0 n=if bs.length-at_<n then []else(bs.drop at_).take n from Ae pR];by_cases j:bs.length-at_<n
 ·rw[Ag j,Ag j,Ag j];have g0:=jb ((n:Int)<0)
  have g1:=ja (((bs.length-at_:Nat):Int)<(n:Int))
  have g2:=ja (bs.length-at_<n)
  have H:=hid h;have HO:=hid E;clear N i L j h Y E;go_enter func239,ntmps239;go_wp2_with fail;go_ret2;exact⟨0,1,rfl,nB,H.out,Kept.refl _ _,rfl,rfl,_,HO.out,AE _ _ _ _⟩
 ·rw[Ae j,Ae j,Ae j];have g0:=jb ((n:Int)<0)
  have g1:=jb (((bs.length-at_:Nat):Int)<(n:Int))
  have g2:=jb (bs.length-at_<n)
  have hcut:∀a,Ba A at_ c 1=some a->a.add 0=a:=by
   intro a ha;unfold Ba at ha;split at ha
   ·exact i a ha
   ·cases A with
    |none=>cases ha
    |some a0=>
     have h0:=i a0 rfl;injection ha with ha;subst ha;rcases h.own.2 with ⟨hv,_⟩|⟨gg,aj,cur,hv,_⟩
     ·cases hv
     ·injection hv with e1 e2 e3;injection e1 with e1;subst e1;show Addr.add (Addr.add ⟨gg,0,none⟩ (at_*1)) 0=Addr.add ⟨gg,0,none⟩ (at_*1);rw[Gx,Gx,Cw]
  have ks:=fun wx=>FB (P:=prog) (t:=28) (s:=1) underlying28 (fun _=>by kernel_rfl) (Ba A at_ c 1) (bs.length-at_) (c-at_) .i64 (n:Int) n rfl (by have:=L.2;omega) hcut wx
  have J:Ba A at_ c 1=none->n=0/\c-at_=0:=by
   intro ha
   have hA:A=none:=by
    unfold Ba at ha;split at ha
    ·exact ha
    ·cases A with
     |none=>rfl
     |some a=>cases ha
   have:=L.1 hA;omega
  have U:((bs.drop at_).take n).length=n:=by rw[Bc,AZ];omega
  have D:=hid (IM w (Ba A at_ c 1) n (c-at_) ((bs.drop at_).take n) U nB J (GO N nB));have H:=hid h;have HO:=hid E;generalize ae:(bs.drop at_).take n=ls at *;have ag:=hid U;generalize Ba A at_ c 1=A1 at *;have af:n<=100000:=nB
  clear N i L j h Y E hcut J ae U;go_enter func239,ntmps239;go_wp2_with fail;refine D.out.mono ?_;rintro e w1 ⟨v,rfl,M,hb⟩;obtain⟨A2,c2,rfl⟩:=aZ M;have G:=HO.out.step hb;have h1:=H.out.step hb;have hz:=hb.size;have k1:=G.iy 0;have k2:=G.frozen 0;have ah:=HO.out.lt;have k0:w1.cell? ⟨nb,0,none⟩=some (.int .i64 n):=(hb.cell (p:=⟨nb,0,none⟩) (World.block_lt_of_cell? _ _ d0)).trans d0;have ac:nb≠ob:=by intro e;subst e;rw[d0]at d1;cases d1
  have k3:(w1.setCell ⟨ob,0,none⟩ (.slice A2 n c2)).cell? ⟨nb,0,none⟩=some (.int .i64 n):=by rw[World.cell?_setCell_other _ _ _ _ (by intro e;injection e with e _;exact ac e.symm)];exact k0
  have H1:=hid h1;have Q:=hid G;have aa:=hid M;have HB:=hid hb;clear h1 G M hb D HO H d0 d1 f1;go_wp2_with fail;go_ret2;refine⟨n,0,rfl,af,?_,?_,rfl,rfl,_,Q.out.set 0 _,?_⟩
  ·exact⟨H1.out.blk.far (fun e=>ab e.symm) _,Cb H1.out.own (iZ H1.out.own Q.out ji) _,Z,H1.out.lo⟩
  ·exact(Kept.of_below HB.out (fun x hx=>hx.1)).set (fun h=>h.2.2 rfl) _
  ·rw[ag.out];exact Cb aa.out (iZ aa.out Q.out ji) _
theorem JW(bs:List Nat)(at_ n:Nat):BJ bs at_ 0 n=if bs.length-at_<n then []else(bs.drop at_).take n:=Ae pR
theorem Kt(bs:List Nat)(at_ n:Nat):takeA bs at_ 0 n=if bs.length-at_<n then at_ else at_+n:=Ae pR
theorem Kr(bs:List Nat)(at_ n:Nat):Cj bs at_ 0 n=if bs.length-at_<n then 1 else 0:=Ae pR
theorem UF(bs:List Nat)(at_:Nat)(er:Int)(n:Nat):(BJ bs at_ er n).length<=n:=by
 unfold BJ;split
 ·simp
 ·split
  ·simp
  ·rw[Bc];omega
theorem L5(bs:List Nat)(at_:Nat)(er:Int)(n:Nat)(h:at_<=bs.length):takeA bs at_ er n<=bs.length:=by
 unfold takeA;split
 ·exact h
 ·split
  ·exact h
  ·omega
theorem JY(w:World)(g base:Nat)(bs:List Nat)(A:Option Addr)(c at_:Nat)(er:Int)(n:Nat)(ac:bs.length<=100000)(hn:n<=1000000000)(h:Cur w g base bs A c at_ er):
 Calls prog 187 #[.pointer (some ⟨g,0,none⟩),n] w (JZ w g base bs A c at_ er n):=by
 have ai:=h.blk.lt;have h2:Cur ((w.alloc (.cells #[n] 3)).alloc (.cells #[()] 28)) g base bs A c at_ er:=(h.step (cZ (Ak _ _))).step (cZ (Ak _ _));have U:Blk ((w.alloc (.cells #[n] 3)).alloc (.cells #[()] 28)) w 3 #[n]:=(Blk.made _ _ _).alloc _;have M:Blk ((w.alloc (.cells #[n] 3)).alloc (.cells #[()] 28)) (w.heap.size+1) 28 #[()]:=Blk.made_at _ _ _ pR;have Y:Kept (fun x=>x<w.heap.size/\x≠g) w ((w.alloc (.cells #[n] 3)).alloc (.cells #[()] 28)):=Kept.of_below (by(repeat (with_reducible first|exact Ak _ _|assumption|refine Aw ?_ |refine below_drewN ?_ _|refine oZ ?_ |refine cZ ?_ |refine dZ jf ?_ |refine belA ?_ |refine pZ jf ?_)):Below w w _) (fun x hx=>hx.1);have ah:((w.alloc (.cells #[n] 3)).alloc (.cells #[()] 28)).heap.size=w.heap.size+2:=pR
 have ag:=h.le;unfold JZ;by_cases he:er=0
 ·subst he;have af:∀N wx,(callFunc 239 N).run prog wx= .ok (.enter 239 N) wx:=by intro N wx;simp[callFunc,go_sem,func239];rfl
  have D:=fun w2 (hc2:Cur w2 g base bs A c at_ 0) (U:Blk w2 w 3 #[n]) (M:Blk w2 (w.heap.size+1) 28 #[()])=>MW w2 g base bs A c at_ hc2 ac 239 #[.pointer (some ⟨w,0,none⟩), .pointer (some ⟨w.heap.size+1,0,none⟩)] (fun k e2 w'=>LD w2 g (w.heap.size+1) bs at_ n k e2 w') af
   (fun q=>(iS (w2.drewN q) g base w (w.heap.size+1) bs A c at_ n ac hn (hc2.drewN q) (U.drewN q) (M.drewN q)).mono fun e w' ⟨k,e2,h1,h2,h3,h4⟩=>⟨k,e2,h1,h2,h3,⟨⟨h4.1.os,h4.1.tape,h4.1.output,h4.1.size,h4.1.block⟩,h4.2⟩⟩)
  have D:=hid (D _ h2 U M);have HK:=hid Y;clear af h2 U M Y;have ae:w.heap.size+1≠g:=nB
  by_cases E:bs.length-at_<n
  ·have eO:BJ bs at_ 0 n= []:=(JW _ _ _).trans (Ag E);have eA:takeA bs at_ 0 n=at_:=(Kt _ _ _).trans (Ag E);have eE:Cj bs at_ 0 n=1:=(Kr _ _ _).trans (Ag E);unfold LD at D;rw[eO,Ag E,Ag E]at D;rw[eO,eA,eE];clear eO eA eE E;go_enter func187,ntmps187;go_wp2_with fail;refine D.out.mono ?_;rintro e w4 ⟨k,e2,w3,⟨j,aa,ab,v,G,i⟩,J,L⟩;have Q:Hid (Kept (fun x=>x<w.heap.size/\x≠g) w w3):=HK.out.trans ⟨j.os,j.tape,j.output,j.size,fun x hx=>j.block x ⟨nB,hx.2,nB⟩⟩;obtain⟨va,vc,rfl⟩:=aZ i;subst ab;rcases L with ⟨_,rfl,rfl⟩|⟨h0,_,_⟩
   ·have hB:=G.far (fun e=>ae e) (p:=⟨g,2,none⟩) (.int .i64 1);have d0:=hB.iy 0;have HC:=hid (J.setErr 1);have HO:=hid (lZ (Cb (p:=⟨g,2,none⟩) i (iZ i J.blk ji) (.int .i64 1)) (show w.heap.size<=_ by omega));have Z:Hid (Kept (fun x=>x<w.heap.size/\x≠g) w (w3.setCell ⟨g,2,none⟩ (.int .i64 1))):=Q.out.set (fun h=>h.2 rfl) _;generalize w3.setCell ⟨g,2,none⟩ (.int .i64 1)=w5 at *;clear hB G i J j D Q HK aa;go_wp2_with fail;go_ret;exact⟨_,rfl,HO.out,HC.out,Z.out⟩
   ·cases h0
  ·have aj:n<=bs.length-at_:=nB;have eO:BJ bs at_ 0 n=(bs.drop at_).take n:=(JW _ _ _).trans (Ae E);have eA:takeA bs at_ 0 n=at_+n:=(Kt _ _ _).trans (Ae E);have eE:Cj bs at_ 0 n=0:=(Kr _ _ _).trans (Ae E);unfold LD at D;rw[eO,Ae E,Ae E]at D;rw[eO,eA,eE];clear eO eA eE E;generalize (bs.drop at_).take n=ls at *;go_enter func187,ntmps187;go_wp2_with fail;refine D.out.mono ?_;rintro e w4 ⟨k,e2,w3,⟨j,aa,ab,v,G,i⟩,J,L⟩;have Q:Hid (Kept (fun x=>x<w.heap.size/\x≠g) w w3):=HK.out.trans ⟨j.os,j.tape,j.output,j.size,fun x hx=>j.block x ⟨nB,hx.2,nB⟩⟩;obtain⟨va,vc,rfl⟩:=aZ i;subst ab;rcases L with ⟨h0,_,_⟩|⟨_,rfl,rfl⟩
   ·exact absurd rfl h0
   ·obtain rfl:k=n:=by omega
    have hB:=G.far (fun e=>ae e) (p:=⟨g,1,none⟩) (.int .i64 (at_+k:Nat));have d0:=hB.iy 0;have HC:=hid (J.setAt (at_+k) nB);have HO:=hid (lZ (Cb (p:=⟨g,1,none⟩) i (iZ i J.blk ji) (.int .i64 (at_+k:Nat))) (show w.heap.size<=_ by omega));have Z:Hid (Kept (fun x=>x<w.heap.size/\x≠g) w (w3.setCell ⟨g,1,none⟩ (.int .i64 (at_+k:Nat)))):=Q.out.set (fun h=>h.2 rfl) _;generalize w3.setCell ⟨g,1,none⟩ (.int .i64 (at_+k:Nat))=w5 at *;clear hB G i J j D Q HK aa;go_wp2_with fail;go_ret;exact⟨_,rfl,HO.out,HC.out,Z.out⟩
 ·have D:=hid (Ma _ g base bs A c at_ er h2 he (.func (.func 239) #[] #[.pointer (some ⟨w,0,none⟩), .pointer (some ⟨w.heap.size+1,0,none⟩)]));have eO:BJ bs at_ er n= []:=Ag he;have eA:takeA bs at_ er n=at_:=Ag he;have eE:Cj bs at_ er n=er:=Ag he;rw[eO,eA,eE];have HK:=hid Y;have HC:=hid h2;have d0:=M.iy 0;clear h2 U M Y he eO eA eE;go_enter func187,ntmps187;go_wp2_with fail;refine D.out.mono ?_;rintro e w4 ⟨rfl,rfl⟩;go_wp2_with fail;go_ret;exact⟨_,rfl,AE _ _ _ _,HC.out,HK.out⟩
def GQ(bs:List Nat)(at_:Nat)(er:Int):Nat:=if er≠0 then 0 else bs.getD at_ 0
theorem Uq(w:World)(g base:Nat)(bs:List Nat)(A:Option Addr)(c at_:Nat)(er:Int)(j:bs.length<=100000)(h:Cur w g base bs A c at_ er):
 Calls prog 219 #[.pointer (some ⟨g,0,none⟩)] w fun e w'=>e= .returned (.int .u8 (GQ bs at_ er:Nat))/\Cur w' g base bs A c (takeA bs at_ er 1) (Cj bs at_ er 1)/\Kept (BL g w) w w':=by
 have D:=JY w g base bs A c at_ er 1 j nB h;unfold JZ at D;by_cases hc:er=0/\at_<bs.length
 ·have hO:BJ bs at_ er 1= [bs.getD at_ 0]:=by rw[hc.1,JW,Ae nB,Dx hc.2,Aq,AD hc.2];rfl
  have hV:GQ bs at_ er=bs.getD at_ 0:=Ae (by simp[hc.1]);rw[hO]at D;rw[hV];have D:=hid D;clear hO hV hc h;generalize bs.getD at_ 0=x at *;go_enter func219,ntmps219;go_wp2_with fail;refine D.out.mono ?_;rintro e w1 ⟨v,rfl,i,hc,hk⟩;obtain⟨g2,c2,hv,_⟩:=i.form pR;subst hv;have c0:=i.cellAt 0 pR;simp only[bZ,List.map_cons,List.map_nil]at c0;have HC:=hid hc;have HK:=hid hk;clear i hc hk D;go_wp2_with fail;go_ret;exact⟨rfl,HC.out,HK.out⟩
 ·have hO:BJ bs at_ er 1= []:=by
   by_cases he:er=0
   ·rw[he,JW,Ag nB]
   ·exact Ag he
  have hV:GQ bs at_ er=0:=by
   unfold GQ;split
   ·rfl
   ·rw[Aq,FO nB];rfl
  rw[hO]at D;rw[hV];have D:=hid D;clear hO hV hc h;go_enter func219,ntmps219;go_wp2_with fail;refine D.out.mono ?_;rintro e w1 ⟨v,rfl,i,hc,hk⟩;obtain⟨A2,c2,rfl⟩:=aZ i;have HC:=hid hc;have HK:=hid hk;simp only[List.length_nil]at i;clear i hc hk D;go_wp2_with fail;go_ret;exact⟨rfl,HC.out,HK.out⟩
def Bh(most:Nat)(bs:List Nat)(at_:Nat)(er:Int):Nat:=if er≠0 then 0 else(BM most (bs.drop at_)).1
def AR(most:Nat)(bs:List Nat)(at_:Nat)(er:Int):Nat:=if er≠0 then at_ else at_+(BM most (bs.drop at_)).2.1
def AU(most:Nat)(bs:List Nat)(at_:Nat)(er:Int):Int:=if er≠0 then er else(BM most (bs.drop at_)).2.2
theorem Z0(w:World)(g base mb ob:Nat)(bs:List Nat)(A:Option Addr)(c at_ most:Nat)(Q:bs.length<=100000)(h8:∀x∈bs,x<=255)(G:most<=1000000000)(h:Cur w g base bs A c at_ 0)(N:Blk w mb 3 #[most])(i:Blk w ob 3 #[jd]):
 Calls prog 189 #[.slice (Ba A at_ c 1) (bs.length-at_) (c-at_), .pointer (some ⟨mb,0,none⟩), .pointer (some ⟨ob,0,none⟩)] w fun e w'=>∃ (k:Nat) (e2:Int),e= .returned (.tuple #[.int .i64 k,e2])/\k<=100000/\Cur w' g base bs A c at_ 0/\
  (Kept (fun x=>x≠ob) w w'/\k=(BM most (bs.drop at_)).2.1/\e2=(BM most (bs.drop at_)).2.2/\Blk w' ob 3 #[.int .i64 (BM most (bs.drop at_)).1]):=by
 have d0:=N.iy 0;have f1:=i.frozen 0;have d1:=i.iy 0;have J:=Ew h.own;have j:=Fy (own_row h.own) h.le J.2;have E:∀x∈bs.drop at_,x<=255:=fun x hx=>h8 x (Cg hx);have D:=TI w (Ba A at_ c 1) (bs.length-at_) (c-at_) (bs.drop at_) most G (by rw[AZ]) nB E j;have L:=Hv most (bs.drop at_) E;have hk:(BM most (bs.drop at_)).2.1<=100000:=by have:=L.2.1;rw[AZ]at this;omega
 generalize BM most (bs.drop at_)=R at *;have M:=Blk.apart i h.blk ji;have D:=hid D;have H:=hid h;have HO:=hid i;generalize Ba A at_ c 1=A1 at *;clear j E L h i N J;go_enter func189,ntmps189;go_wp2_with fail;refine D.out.mono ?_;rintro e w1 ⟨rfl,rfl⟩;go_wp2_with fail;go_ret2;refine⟨R.2.1,R.2.2,rfl,hk,?_,(Kept.refl _ _).set (fun h=>h rfl) _,rfl,rfl,HO.out.set 0 _⟩;exact⟨H.out.blk.far (fun e=>M e.symm) _,Cb H.out.own (iZ H.out.own HO.out ji) _,H.out.le,H.out.lo⟩
theorem I5(w:World)(g base:Nat)(bs:List Nat)(A:Option Addr)(c at_:Nat)(er:Int)(most:Nat)(ae:bs.length<=100000)(h8:∀x∈bs,x<=255)(aa:most<=1000000000)(h:Cur w g base bs A c at_ er):
 Calls prog 112 #[.pointer (some ⟨g,0,none⟩),most] w fun e w'=>e= .returned (.int .i64 (Bh most bs at_ er:Nat))/\Cur w' g base bs A c (AR most bs at_ er) (AU most bs at_ er)/\Kept (BL g w) w w':=by
 have al:=h.blk.lt;have h2:Cur ((w.alloc (.cells #[most] 3)).alloc (.cells #[jd] 3)) g base bs A c at_ er:=(h.step (cZ (Ak _ _))).step (cZ (Ak _ _));have U:Blk ((w.alloc (.cells #[most] 3)).alloc (.cells #[jd] 3)) w 3 #[most]:=(Blk.made _ _ _).alloc _;have M:Blk ((w.alloc (.cells #[most] 3)).alloc (.cells #[jd] 3)) (w.heap.size+1) 3 #[jd]:=Blk.made_at _ _ _ pR;have Y:Kept (fun x=>x<w.heap.size/\x≠g) w ((w.alloc (.cells #[most] 3)).alloc (.cells #[jd] 3)):=Kept.of_below (by(repeat (with_reducible first|exact Ak _ _|assumption|refine Aw ?_ |refine below_drewN ?_ _|refine oZ ?_ |refine cZ ?_ |refine dZ jf ?_ |refine belA ?_ |refine pZ jf ?_)):Below w w _) (fun x hx=>hx.1);have ak:=h.le;unfold BL;by_cases he:er=0
 ·subst he;have ah:∀N wx,(callFunc 189 N).run prog wx= .ok (.enter 189 N) wx:=by intro N wx;simp[callFunc,go_sem,func189];rfl
  have D:=fun w2 (hc2:Cur w2 g base bs A c at_ 0) (U:Blk w2 w 3 #[most]) (M:Blk w2 (w.heap.size+1) 3 #[jd])=>MW w2 g base bs A c at_ hc2 ae 189 #[.pointer (some ⟨w,0,none⟩), .pointer (some ⟨w.heap.size+1,0,none⟩)]
   (fun k e2 w'=>Kept (fun x=>x≠w.heap.size+1) w2 w'/\k=(BM most (bs.drop at_)).2.1/\e2=(BM most (bs.drop at_)).2.2/\Blk w' (w.heap.size+1) 3 #[.int .i64 (BM most (bs.drop at_)).1]) ah
   (fun q=>(Z0 (w2.drewN q) g base w (w.heap.size+1) bs A c at_ most ae h8 aa (hc2.drewN q) (U.drewN q) (M.drewN q)).mono fun e w' ⟨k,e2,h1,h2,h3,h4⟩=>⟨k,e2,h1,h2,h3,⟨⟨h4.1.os,h4.1.tape,h4.1.output,h4.1.size,h4.1.block⟩,h4.2⟩⟩)
  have D:=hid (D _ h2 U M);have af:∀x∈bs.drop at_,x<=255:=fun x hx=>h8 x (Cg hx);have ab:=Hv most (bs.drop at_) af;rw[AZ]at ab;have eV:Bh most bs at_ 0=(BM most (bs.drop at_)).1:=Ae pR;have eA:AR most bs at_ 0=at_+(BM most (bs.drop at_)).2.1:=Ae pR;have eE:AU most bs at_ 0=(BM most (bs.drop at_)).2.2:=Ae pR;rw[eV,eA,eE];generalize BM most (bs.drop at_)=R at *;have HK:=hid Y;have ai:w.heap.size+1≠g:=nB
  have ag:=hid ab;clear ah h2 U M Y af ab eV eA eE;by_cases hR:R.2.2=0
  ·have aj:at_+R.2.1<=bs.length:=(by have:=ag.out.2.1;omega);go_enter func112,ntmps112;go_wp2_with fail;refine D.out.mono ?_;rintro e w4 ⟨k,e2,w3,⟨i,G,J,E⟩,L,j⟩;rcases j with ⟨h0,_,_⟩|⟨_,rfl,rfl⟩
   ·exact absurd (J.trans hR) h0
   ·have Q:Hid (Kept (fun x=>x<w.heap.size/\x≠g) w w3):=HK.out.trans ⟨i.os,i.tape,i.output,i.size,fun x hx=>i.block x nB⟩;have hB:=E.far (fun e=>ai e) (p:=⟨g,1,none⟩) (.int .i64 (at_+k:Nat));have d0:=hB.iy 0;have HC:=hid (L.setAt (at_+k) nB);rw[G]at HC;have Z:Hid (Kept (fun x=>x<w.heap.size/\x≠g) w (w3.setCell ⟨g,1,none⟩ (.int .i64 (at_+k:Nat)))):=Q.out.set (fun h=>h.2 rfl) _;rw[<-G]at HC;have ac:Hid (Cur (w3.setCell ⟨g,1,none⟩ (.int .i64 (at_+k:Nat))) g base bs A c (at_+R.2.1) R.2.2):=o7;generalize w3.setCell ⟨g,1,none⟩ (.int .i64 (at_+k:Nat))=w5 at *;clear hB E L i D Q HK G J HC hR;go_wp2_with fail;go_ret;exact⟨rfl,ac.out,Z.out⟩
  ·have hz:=ag.out.2.2.2.1 hR;go_enter func112,ntmps112;go_wp2_with fail;refine D.out.mono ?_;rintro e w4 ⟨k,e2,w3,⟨i,G,J,E⟩,L,j⟩;rcases j with ⟨_,rfl,rfl⟩|⟨h0,_,_⟩
   ·have Q:Hid (Kept (fun x=>x<w.heap.size/\x≠g) w w3):=HK.out.trans ⟨i.os,i.tape,i.output,i.size,fun x hx=>i.block x nB⟩;have ac:Hid (Cur (w3.setCell ⟨g,2,none⟩ (.int .i64 e2)) g base bs A c (at_+R.2.1) R.2.2):=pk;have Z:Hid (Kept (fun x=>x<w.heap.size/\x≠g) w (w3.setCell ⟨g,2,none⟩ (.int .i64 e2))):=Q.out.set (fun h=>h.2 rfl) _;generalize w3.setCell ⟨g,2,none⟩ (.int .i64 e2)=w5 at *;have HZ:=hid hz.1;clear E L i D Q HK G J hR hz;go_wp2_with fail;go_ret;exact⟨by rw[HZ.out];rfl,ac.out,Z.out⟩
   ·exact absurd (J.symm.trans h0) hR
 ·have D:=hid (Ma _ g base bs A c at_ er h2 he (.func (.func 189) #[] #[.pointer (some ⟨w,0,none⟩), .pointer (some ⟨w.heap.size+1,0,none⟩)]));have eV:Bh most bs at_ er=0:=Ag he;have eA:AR most bs at_ er=at_:=Ag he;have eE:AU most bs at_ er=er:=Ag he;rw[eV,eA,eE];have HK:=hid Y;have HC:=hid h2;clear h2 U M Y he eV eA eE;go_enter func112,ntmps112;go_wp2_with fail;refine D.out.mono ?_;rintro e w4 ⟨rfl,rfl⟩;go_wp2_with fail;go_ret;exact⟨rfl,HC.out,HK.out⟩
end Nums
namespace Nums
open Go.RowKit Mem Own Canon
theorem Uc{P:Program}{j:Array Oper}{o:Oper}{a:Act}{K:Act->World->Prop}{Q:Exit->Act->World->Prop}{E:Prop}(G:o.guard=none)(s x:Operand)(t:TypeId)
 (ho:o.op= .call {callee:= .builtin .append,args:=#[s,x],argTypes:=#[t,t] })
 (base:Nat)(e:TypeId)(i:TypeInfo)(z:Value)(size bytes:Nat)(ht:P.underlying t=some (.slice e))(hi:P.info? e=some i)(hz:i.zero=some z)
 (hsize:i.size=size)(hby:i.bytes=bytes)(hzs:z.cells.size=size)(hsz:0<size)
 (v:Value)(n:Nat)(xs:List Value)(hs:a.eval s=v)(hown:w.ownsRow base e size v n xs)
 (A:Option Addr)(m c:Nat)(news:List Value)(hx:a.eval x= .slice A m c)(hsrc:Src w A m c size news)(h1:∀u∈news,u.oneCell'=true)
 (h63:n+m<=maxLen)(hbytes:(n+m)*bytes<=140737488355328)(hbase:base<=w.heap.size)
 (h:∀A' c' w',w'.ownsRow base e size (.slice A' (n+m) c') (n+m) (xs++news)->w.grownBy w' v.ownBlock->K (a.put o.dst (.slice A' (n+m) c')) w'):
 if Region.wanted o (yielded j a.tmps)=true then Oper.wp P o a w K Q else E:=by
 have hw:Region.wanted o (yielded j a.tmps)=true:=by simp[Region.wanted,G]
 rw[Ag hw];obtain⟨v',w',hr,h2,h3,h5⟩:=NZ (P:=P) w base t o.type e i z size bytes ht hi hz hsize hby hzs hsz v n xs hown A m c news hsrc h1 h63 hbytes hbase;obtain⟨A',c',rfl⟩:=aZ h2;unfold Oper.wp execOp;simp only[ho,resolve,invoke,builtin,Sem.run_bind,Sem.run_pure,Result.andThen_ok,List.map_toArray,List.map_cons,List.map_nil,hs,hx,hr];exact h A' c' w' h2 h3
end Nums
namespace Nums
open Go.RowKit Mem Own Canon
def H5(bs:List Nat)(at_:Nat)(er:Int):Nat:=if er≠0 then 0 else(Bt (bs.drop at_) 0 0).1
def IJ(bs:List Nat)(at_:Nat)(er:Int):Nat:=if er≠0 then at_ else at_+(Bt (bs.drop at_) 0 0).2.1
def II(bs:List Nat)(at_:Nat)(er:Int):Int:=if er≠0 then er else(Bt (bs.drop at_) 0 0).2.2
end Nums
end Go.Proofs.YtfgdoknipbpfhaaGreatDoor
