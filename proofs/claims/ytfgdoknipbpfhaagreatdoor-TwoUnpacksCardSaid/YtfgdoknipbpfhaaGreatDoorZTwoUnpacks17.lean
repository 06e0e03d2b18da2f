/- The walks of nums.sc -/
import Derived.Test.YtfgdoknipbpfhaaGreatDoorZTwoUnpacks3
import Derived.Laws.Bits64b
import Derived.Laws.EntriesVeiled
import Derived.Deep.AppendLies
namespace Go.Proofs.YtfgdoknipbpfhaaGreatDoor
open Go.Proofs.Tryz
open Go.Lib (hid)
set_option maxHeartbeats 1000000
set_option maxRecDepth 100000
variable{base c i n:Nat}{ls:List Nat}{w:World}{A:Option Addr}{xs:List Value}
namespace Nums
open Go.RowKit Mem Own Canon
def Bi:List Nat->Nat->Nat->Nat×Nat×Int
 | [],_,_=>(0,0,1)
 |c :: t,i,x=>if(i=9/\c≠1)∨(0<i/\c=0)then(0,0,2)else if c<128 then(x+c % 128*2 ^ (7*i),i+1,0)else Bi t (i+1) (x+c % 128*2 ^ (7*i))
theorem G8:∀ (l:List Nat) (i x:Nat),(∀c∈l,c<=255)->i<=9->x<2 ^ (7*i)->(Bi l i x).1<18446744073709551616/\(Bi l i x).2.1<=l.length+i/\((Bi l i x).2.2=0->i<(Bi l i x).2.1)/\((Bi l i x).2.2≠0->(Bi l i x).1=0/\(Bi l i x).2.1=0)/\0<=(Bi l i x).2.2/\(Bi l i x).2.2<=2
 | [],i,x,_,_,_=>by simp[Bi]
 |c :: t,i,x,h8,hi,hx=>by
  have hc:=h8 c mY;rw[Bi];have hp:2 ^ (7*(i+1))=128*2 ^ (7*i):=by rw[show 7*(i+1)=7*i+7 by omega,Nat.pow_add];omega
  by_cases h1:(i=9/\c≠1)∨(0<i/\c=0)
  ·rw[Ab h1];simp
  ·rw[Aa h1];have hb:x+c % 128*2 ^ (7*i)<2 ^ (7*(i+1)):=(by rw[hp];have:c % 128*2 ^ (7*i)<=127*2 ^ (7*i):=Fk _ kR;omega);by_cases h2:c<128
   ·rw[Ab h2];refine⟨?_,ni,fun _=>mY,fun h=>absurd rfl h,mY,mY⟩;by_cases h9:i=9
    ·subst h9;have:c=1:=kR;subst this;have:x<2 ^ 63:=hx;simp;omega
    ·have j:2 ^ (7*(i+1))<=2 ^ 63:=BQ kR kR;show x+c % 128*2 ^ (7*i)<_;omega
   ·rw[Aa h2];have y:i≠9:=kR;have ih:=G8 t (i+1) _ (fun d hd=>h8 d (by simp[hd])) kR hb;refine⟨ih.1,by have:=ih.2.1;simp;omega,fun h=>by have:=ih.2.2.1 h;omega,ih.2.2.2⟩
theorem Qf{x t:Nat}(hx:x<2 ^ i)(h:x+t*2 ^ i<18446744073709551616):bits .or .u64 (x:Int) ((t*2 ^ i:Nat):Int)=((x+t*2 ^ i:Nat):Int):=by rw[bits_or_u64_nat x _ kR kR,Nat.mul_comm t,Nat.or_comm,<-Nat.two_pow_add_eq_or_of_lt hx];congr 1;omega
theorem PV(w:World)(A:Option Addr)(n c:Nat)(ls:List Nat)(hn:ls.length=n)(hN:n<=100000)(h8:∀x∈ls,x<=255)(ha:Row w w A n 1 (jZ .u8 ls)):
 Calls prog 241 #[.slice A n c] w fun e w'=>e= .returned (.tuple #[.int .u64 (Bi ls 0 0).1, .int .i64 (Bi ls 0 0).2.1, .int .i64 (Bi ls 0 0).2.2])/\w'=w:=by
 have HA:=hid ha;have HN:=hid hn;have H8:=hid h8;clear ha hn h8;obtain⟨R,hR⟩:=iS (Bi ls 0 0);rw[<-hR];have HR:=hid hR;clear hR;go_enter func241,ntmps241;go_wp2_with fail;go_loopw [2,9] (fun xv i wx=>∃k x:Nat,k<=n/\k<=9/\xv= .int .u64 x/\i= .int .i64 k/\Hid (x<2 ^ (7*k))/\Hid (Bi (ls.drop k) k x=R)/\wx=w) (fun _ i _=>n-(intOf i).toNat)
 case atStart=>exact⟨0,0,kR,kR,rfl,rfl,by show _<_;simp,HR.out.symm,rfl⟩
 case round=>
  obtain⟨k,x,hk,ai,rfl,rfl,hx,hS,rfl⟩:=hrel;by_cases ae:k<n
  ·obtain⟨b,ak,y,rfl,hb,hy,hc⟩:=CD HA.out HN.out ae;have L:k<ls.length:=(by rw[HN.out];exact ae);have aj:y<=255:=H8.out y (BP hy);have hs:=hS.out;rw[CU L,Bi]at hs;rw[AE L]at hy;injection hy with hy;rw[hy]at hs;have y0:(0:Int)<=(k:Int):=kR;have y1:(k:Int)<(n:Int):=kR;by_cases h9:k=9/\y≠1
   ·rw[Ab (.inl h9)]at hs;have g1:((k:Int)==9)=true:=ni;have g2:((y:Int) != 1)=true:=ni;have HS:=hid hs;clear hs hS hx h9 hy L;go_wp2_with fail
    go_ret3
    exact⟨kY,rfl⟩
   ·by_cases h0:0<k/\y=0
    ·rw[Ab (.inr h0)]at hs;have g1:((k:Int)==9)=false:=lI;have g3:=iQ (0<k);have g4:((y:Int)==0)=true:=ni;have HS:=hid hs;clear hs hS hx h9 h0 hy L;go_wp2_with fail
     go_ret3
     exact⟨kY,rfl⟩
    ·rw[Aa kR]at hs;have N:=hx.out;obtain⟨E,hE⟩:=iS (7*k);rw[<-hE]at hs N;obtain⟨c7,Z⟩:=iS (y % 128);rw[<-Z]at hs;obtain⟨x2,Q⟩:=iS (x+c7*2 ^ E);have ac:2 ^ E<=2 ^ 63:=BQ kR kR;have ab:c7*2 ^ E<=127*2 ^ E:=Fk _ (by omega)
     have U:x+c7*2 ^ E<18446744073709551616:=by
      by_cases j:k=9
      ·have:y=1:=kR;have e7:c7=1:=kR;have af:E=63:=kR;subst af;rw[e7];have:x<2 ^ 63:=N;omega
      ·have:2 ^ E<=2 ^ 56:=BQ kR kR;omega
     obtain⟨t2,Y⟩:=iS (c7*2 ^ E);have s1:IntKind.i64.wrap (7*(k:Int))=(E:Int):=lD
     have e1:bits .andNot .u8 (y:Int) 128=(c7:Int):=(by have h:=u8_andNot_nat y 128 kR kR;rw[show(255-128)=2 ^ 7-1 from rfl,Mh]at h;rw[Z];exact h);have s2:IntKind.u64.wrap (c7:Int)=(c7:Int):=lG;have s3:IntKind.u64.wrap ((c7:Int)*2 ^ E)=(t2:Int):=(by rw[BD,Y];have:((c7:Int)*2 ^ E)=((c7*2 ^ E:Nat):Int):=(by push_cast;rfl);rw[this];omega);have e2:bits .or .u64 (x:Int) (t2:Int)=(x2:Int):=(by rw[Y,Qf N U,Q]);rw[<-Q]at hs;have z0:(0:Int)<=(E:Int):=kR;have z1:(E:Int)<=64:=kR;have aa:x2<2 ^ (7*(k+1)):=(by rw[Q,show 7*(k+1)=E+7 by omega,Nat.pow_add];omega);have HP:=hid aa;have HS:=hid hs;have H9:Hid (k=9->y=1):=fun h=>kR
     have ag:((k:Int)==9&&(y:Int) != 1)=false∨True:= .inr trivial;clear hs hS hx N hy L Q Y Z ac ab U hE aa ag;have M:=HS;by_cases z:y<128
     ·have g5:=iQ ((y:Int)<128);have g6:=iQ (y<128);have hs:=HS.out;rw[Ab z]at hs;have G:=hid hs;have s5:IntKind.i64.wrap ((k:Int)+1)=(k:Int)+1:=lB;clear hs HS M z;by_cases j:k=9
      ·have g1:((k:Int)==9)=true:=ni;have g2:((y:Int) != 1)=false:=j8;have g3:=iQ (0<k);have g4:((y:Int)==0)=false:=j8;clear j h9 h0;go_wp2_with fail
       go_ret3
       exact⟨by rw[<-G.out];rfl,rfl⟩
      ·have g1:((k:Int)==9)=false:=lI;by_cases J:k=0
       ·have g3:=iR (0<k);clear j J h9 h0;go_wp2_with fail
        go_ret3
        exact⟨by rw[<-G.out];rfl,rfl⟩
       ·have g3:=iQ (0<k);have g4:((y:Int)==0)=false:=lI;clear j J h9 h0;go_wp2_with fail
        go_ret3
        exact⟨by rw[<-G.out];rfl,rfl⟩
     ·have g5:=iR ((y:Int)<128);have g6:=iR (y<128);have hs:=HS.out;rw[Aa z]at hs;have G:=hid hs;have ah:k≠9:=fun h=>by have:=H9.out h;omega
      clear hs HS M z;by_cases j:k=9
      ·have g1:((k:Int)==9)=true:=ni;have g2:((y:Int) != 1)=false:=j8;have g3:=iQ (0<k);have g4:((y:Int)==0)=false:=j8;clear j h9 h0;go_wp2_with fail;go_roundw
       case measure=>exact jw
       case rel=>exact jo
      ·have g1:((k:Int)==9)=false:=lI;by_cases J:k=0
       ·have g3:=iR (0<k);clear j J h9 h0;go_wp2_with fail;go_roundw
        case measure=>exact jw
        case rel=>exact jo
       ·have g3:=iQ (0<k);have g4:((y:Int)==0)=false:=lI;clear j J h9 h0;go_wp2_with fail;go_roundw
        case measure=>exact jw
        case rel=>exact jo
  ·obtain rfl:k=n:=by omega
   have hs:=hS.out;rw[Cw lQ,Bi]at hs;have HS:=hid hs;clear hs hS hx;go_wp2_with fail
   go_ret3
   exact⟨kY,rfl⟩
end Nums
namespace Nums
open Go.RowKit Mem Own Canon
theorem numL_get{k:IntKind}(h:i<ls.length):(cZ k ls)[i*1+0]? =some (jZ k ls i 0):=by simp[cZ,jZ,List.getD_eq_getElem?_getD,h]
theorem own_row(h:w.ownsRow base 5 1 (.slice A ls.length c) ls.length (cZ .u8 ls)):Row w w A ls.length 1 (jZ .u8 ls):=
 Row.of_own h rfl fun i j hi hj=>by
  obtain rfl:j=0:=kR
  exact numL_get hi
theorem G7(h:w.ownsRow base 5 1 (.slice A n c) n xs):A=none->n=0/\c=0:=(Da h).1
theorem aD(h:w.ownsRow base 5 1 (.slice A n c) n xs):∀a,A=some a->a.add 0=a:=by
 intro a ha;subst ha;rcases h.2 with ⟨hv,_⟩|⟨g,i,cur,hv,_⟩
 ·cases hv
 ·injection hv with e1 e2 e3;injection e1 with e1;subst e1;exact Fp g 0 0
def Bq(most:Nat)(ls:List Nat):Nat×Nat×Int:=
 if(Bi ls 0 0).2.2≠0 then(0,0,(Bi ls 0 0).2.2)else if most<(Bi ls 0 0).1 then(0,0,6)else Bi ls 0 0
theorem FC(most:Nat)(ls:List Nat)(h8:∀c∈ls,c<=255):(Bq most ls).1<=most/\(Bq most ls).2.1<=ls.length/\((Bq most ls).2.2=0->1<=(Bq most ls).2.1)/\((Bq most ls).2.2≠0->(Bq most ls).1=0/\(Bq most ls).2.1=0)/\0<=(Bq most ls).2.2/\(Bq most ls).2.2<=6:=by
 have h:=G8 ls 0 0 h8 kR mY;unfold Bq;split
 ·rename_i he;exact⟨mY,mY,fun h0=>absurd h0 he,fun _=>⟨rfl,rfl⟩,h.2.2.2.2.1,by have:=h.2.2.2.2.2;show(Bi ls 0 0).2.2<=6;omega⟩
 ·rename_i he;split
  ·exact⟨mY,mY,fun h0=>absurd h0 iX,fun _=>⟨rfl,rfl⟩,mY,mY⟩
  ·exact⟨kR,by have:=h.2.1;omega,fun h0=>by have:=h.2.2.1 h0;omega,h.2.2.2.1,h.2.2.2.2.1,by have:=h.2.2.2.2.2;omega⟩
theorem Oh(w:World)(A:Option Addr)(n c:Nat)(ls:List Nat)(most:Nat)(h:most<=1000000000)(hn:ls.length=n)(hN:n<=100000)(h8:∀x∈ls,x<=255)(ha:Row w w A n 1 (jZ .u8 ls)):
 Calls prog 190 #[.slice A n c,most] w fun e w'=>e= .returned (.tuple #[.int .i64 (Bq most ls).1, .int .i64 (Bq most ls).2.1, .int .i64 (Bq most ls).2.2])/\w'=w:=by
 have D:=PV w A n c ls hn hN h8 ha;have hs:=G8 ls 0 0 h8 kR mY;unfold Bq;clear hn h8 ha;generalize Bi ls 0 0=R at *;obtain⟨x,k,er⟩:=R;simp only at hs D ⊢;have hx:=hs.1;have D:=hid D;have s1:IntKind.u64.wrap (most:Int)=(most:Int):=lG
 by_cases he:er=0
 ·subst he;rw[Aa mY];by_cases hm:most<x
  ·rw[Ab hm];have g1:=iQ ((most:Int)<x);have g2:=iQ (most<x);clear hs hm;go_enter func190,ntmps190;go_wp2_with fail;refine D.out.mono ?_;rintro e w1 ⟨rfl,rfl⟩;go_wp2_with fail
   go_ret3
   exact⟨rfl,rfl⟩
  ·rw[Aa hm];have g1:=iR ((most:Int)<x);have g2:=iR (most<x);have s2:IntKind.i64.wrap (x:Int)=(x:Int):=lB;clear hs hm;go_enter func190,ntmps190;go_wp2_with fail;refine D.out.mono ?_;rintro e w1 ⟨rfl,rfl⟩;go_wp2_with fail
   go_ret3
   exact⟨rfl,rfl⟩
 ·rw[Ab he];have g1:(er != 0)=true:=by simpa using he
  clear hs he;go_enter func190,ntmps190;go_wp2_with fail;refine D.out.mono ?_;rintro e w1 ⟨rfl,rfl⟩;go_wp2_with fail
  go_ret3
  exact⟨rfl,rfl⟩
structure Cur (w:World) (g base:Nat) (bs:List Nat) (A:Option Addr) (c at_:Nat) (er:Int):Prop where
 blk:Blk w g 243 #[.slice A bs.length c,at_,er]
 own:w.ownsRow base 5 1 (.slice A bs.length c) bs.length (cZ .u8 bs)
 le:at_<=bs.length
 lo:base<=g
section
variable {w w':World} {g base:Nat} {bs:List Nat} {A:Option Addr} {c at_:Nat} {er:Int}
theorem Cur.drew(h:Cur w g base bs A c at_ er):Cur w.drew g base bs A c at_ er:=⟨h.blk,h.own,h.le,h.lo⟩
theorem Cur.drewN(h:Cur w g base bs A c at_ er)(q:Nat):Cur (w.drewN q) g base bs A c at_ er:=⟨h.blk,h.own,h.le,h.lo⟩
theorem Cur.step(h:Cur w g base bs A c at_ er)(hb:aO w w'):Cur w' g base bs A c at_ er:=
 ⟨h.blk.step hb,dZ h.own (fun x hx=>hb.block x (Ae h.own x hx).2),h.le,h.lo⟩
theorem Cur.cells(h:Cur w g base bs A c at_ er):w.cell? ⟨g,0,none⟩=some (.slice A bs.length c)/\w.cell? ⟨g,1,none⟩=some (.int .i64 at_)/\w.cell? ⟨g,2,none⟩=some (.int .i64 er):=⟨h.blk.cell 0,h.blk.cell 1,h.blk.cell 2⟩
theorem Cur.setErr(h:Cur w g base bs A c at_ er)(e2:Int):Cur (w.setCell ⟨g,2,none⟩ (.int .i64 e2)) g base bs A c at_ e2:=
 ⟨h.blk.set 2 _,dZ h.own (fun x hx=>AJ w _ _ x (fun e=>fZ h.own h.blk iX (hx.trans (AI some e)))),h.le,h.lo⟩
theorem Cur.setAt(h:Cur w g base bs A c at_ er)(i:Nat)(h2:i<=bs.length):Cur (w.setCell ⟨g,1,none⟩ (.int .i64 i)) g base bs A c i er:=
 ⟨h.blk.set 1 _,dZ h.own (fun x hx=>AJ w _ _ x (fun e=>fZ h.own h.blk iX (hx.trans (AI some e)))),h2,h.lo⟩
end
theorem new_any(w:World)(A:Option Addr)(n c:Nat)(ls:List Nat)(hn:ls.length=n)(y:n<=100000)(j:A=none->n=0/\c=0)(ha:Row w w A n 1 (jZ .u8 ls)):
 Calls prog 110 #[.slice A n c] w fun e w'=>∃g B d,e= .returned (.pointer (some ⟨g,0,none⟩))/\Cur w' g w ls B d 0 0/\aO w w':=by
 have D:=hid (Hp w A n c ls hn y j ha);have HN:=hid hn;clear hn j ha;go_enter func110,ntmps110;go_wp2_with fail;refine D.out.mono ?_;rintro e w1 ⟨v,rfl,i,hb⟩;obtain⟨B,d,rfl⟩:=aZ i;have hz:=hb.size;have HO:=hid i;have HB:=hid hb;clear i hb D;go_wp2_with fail;go_ret;refine⟨w1.heap.size,B,d,rfl,⟨?_,?_,Ba _,hz⟩,lZ hz HB.out⟩
 ·rw[HN.out];exact Blk.made _ _ _
 ·have h:=HO.out.alloc (.cells #[.slice B n d,iT,iT] 243);rw[HN.out];exact h
theorem CJ(w:World)(g base:Nat)(bs:List Nat)(A:Option Addr)(c at_:Nat)(er:Int)(h:Cur w g base bs A c at_ er):
 Calls prog 113 #[.pointer (some ⟨g,0,none⟩)] w fun e w'=>e= .returned (.int .i64 er)/\w'=w:=by
 obtain⟨d0,d1,d2⟩:=h.cells;clear h;go_enter func113,ntmps113;go_wp2_with fail;go_ret;exact⟨rfl,rfl⟩
theorem GQ(w:World)(g base:Nat)(bs:List Nat)(A:Option Addr)(c at_:Nat)(er:Int)(h:Cur w g base bs A c at_ er):
 Calls prog 195 #[.pointer (some ⟨g,0,none⟩)] w fun e w'=>e= .returned (.int .i64 at_)/\w'=w:=by
 obtain⟨d0,d1,d2⟩:=h.cells;clear h;go_enter func195,ntmps195;go_wp2_with fail;go_ret;exact⟨rfl,rfl⟩
def Du(er e2:Int):Int:=if er=0 then e2 else er
theorem Gc(w:World)(g base:Nat)(bs:List Nat)(A:Option Addr)(c at_:Nat)(er e2:Int)(h:Cur w g base bs A c at_ er):
 Calls prog 186 #[.pointer (some ⟨g,0,none⟩),e2] w fun e w'=>e= .returned (.tuple #[])/\Cur w' g base bs A c at_ (Du er e2)/\Kept (fun x=>x≠g) w w':=by
 obtain⟨d0,d1,d2⟩:=h.cells;have f2:=h.blk.frozen 2;have H:=hid h;clear h;unfold Du;by_cases he:er=0
 ·subst he;rw[Ab rfl];go_enter func186,ntmps186;go_wp2_with fail;refine bodyPost_end (Ew rfl _ _ _) rfl ?_;exact⟨rfl,H.out.setErr e2,(Kept.refl _ _).set (fun h=>h rfl) _⟩
 ·rw[Aa he];have g1:(er==0)=false:=by simpa using he
  clear he;go_enter func186,ntmps186;go_wp2_with fail;refine bodyPost_end (Ew rfl _ _ _) rfl ?_;exact⟨rfl,H.out,Kept.refl _ _⟩
theorem rest_any(w:World)(g base:Nat)(bs:List Nat)(A:Option Addr)(c at_:Nat)(er:Int)(h:Cur w g base bs A c at_ er):
 Calls prog 240 #[.pointer (some ⟨g,0,none⟩)] w fun e w'=>e= .returned (.slice (xZ A at_ c 1) (bs.length-at_) (c-at_))/\∃q,w'=w.drewN q:=by
 obtain⟨d0,d1,d2⟩:=h.cells;have kc:=fun wx=>EM (P:=prog) (t:=28) (s:=1) underlying28 (fun _=>by kernel_rfl) A bs.length c .i64 (at_:Int) at_ rfl h.le wx;generalize bs.length=n at *;clear h;go_enter func240,ntmps240;go_wp2_with fail;go_quiet (fail);go_wp2_with fail;go_ret;exact⟨rfl,_,rfl⟩
end Nums
namespace Nums
open Go.RowKit Mem Own Canon
open Crc (Cv Dd CX)
theorem sZ{s:Nat}{e:TypeId}{v:Value}{p:Addr}(h:w.ownsRow base e s v n xs)(hr:v.ownBlock≠some p.block)(u:Value):(w.setCell p u).ownsRow base e s v n xs:=
 dZ h fun b hb=>AJ w p u b (fun e=>hr (hb.trans (AI some e)))
def AW(g:Nat)(w:World)(x:Nat):Prop:=x<w.heap.size/\x≠g
theorem zX(w:World)(g base:Nat)(bs:List Nat)(A:Option Addr)(c at_:Nat)(er:Int)(h:Cur w g base bs A c at_ er)(he:er≠0)(u:Value):
 Calls prog 188 #[.pointer (some ⟨g,0,none⟩),u] w fun e w'=>e= .returned (.bool false)/\w'=w:=by
 have D:=hid (CJ w g base bs A c at_ er h);have g1:(er != 0)=true:=nB
 clear h he;go_enter func188,ntmps188;go_wp2_with fail;refine D.out.mono ?_;rintro e w1 ⟨rfl,rfl⟩;go_wp2_with fail;go_ret;exact⟨rfl,rfl⟩
theorem L6(w:World)(g base:Nat)(bs:List Nat)(A:Option Addr)(c at_:Nat)(h:Cur w g base bs A c at_ 0)(j:bs.length<=100000)(K:Nat)(i:Array Value)(R:Nat->Int->World->Prop)
 (hK:∀args wx,(callFunc K args).run prog wx= .ok (.enter K args) wx)
 (hs:∀q,Calls prog K (#[.slice (xZ A at_ c 1) (bs.length-at_) (c-at_)]++i) (w.drewN q) fun e w'=>∃ (k:Nat) (e2:Int),e= .returned (.tuple #[.int .i64 k,e2])/\k<=100000/\Cur w' g base bs A c at_ 0/\R k e2 w'):
 Calls prog 188 #[.pointer (some ⟨g,0,none⟩), .func (.func K) #[] i] w fun e w'=>∃ (k:Nat) (e2:Int) (w2:World),R k e2 w2/\Cur w2 g base bs A c at_ 0/\
  ((e2≠0/\e= .returned (.bool false)/\w'=w2.setCell ⟨g,2,none⟩ (.int .i64 e2))∨(e2=0/\e= .returned (.bool true)/\w'=w2.setCell ⟨g,1,none⟩ (.int .i64 (at_+k:Nat)))):=by
 have D:=hid (CJ w g base bs A c at_ 0 h);have D2:=hid (rest_any w g base bs A c at_ 0 h);have y:=h.le;have HS:=hid hs;clear h hs;go_enter func188,ntmps188;go_wp2_with fail;refine D.out.mono ?_;rintro e w1 ⟨rfl,rfl⟩;go_wp2_with fail;refine D2.out.mono ?_;rintro e w2 ⟨rfl,q,rfl⟩;go_wp2_with fail;refine(HS.out q).mono ?_;rintro e w3 ⟨k,e2,rfl,hk,hc,hR⟩;obtain⟨d0,d1,d2⟩:=hc.cells;have f1:=hc.blk.frozen 1;have f2:=hc.blk.frozen 2;have HC:=hid hc;have HR:=hid hR;clear hc hR D D2 HS;by_cases he:e2=0
 ·subst he;have s1:IntKind.i64.wrap ((at_:Int)+(k:Int))=((at_+k:Nat):Int):=by rw[Am _ kR];omega
  go_wp2_with fail;go_ret;exact⟨k,0,w3,HR.out,HC.out, .inr ⟨rfl,rfl,mY⟩⟩
 ·have g1:(e2 != 0)=true:=by simpa using he
  have HE:=hid he;clear he;go_wp2_with fail;go_ret;exact⟨k,e2,w3,HR.out,HC.out, .inl ⟨HE.out,rfl,rfl⟩⟩
def AZ(bs:List Nat)(at_:Nat)(er:Int)(n:Nat):List Nat:=if er≠0 then []else if bs.length-at_<n then []else(bs.drop at_).take n
def takeA(bs:List Nat)(at_:Nat)(er:Int)(n:Nat):Nat:=if er≠0 then at_ else if bs.length-at_<n then at_ else at_+n
def Bh(bs:List Nat)(at_:Nat)(er:Int)(n:Nat):Int:=if er≠0 then er else if bs.length-at_<n then 1 else 0
def IH(w:World)(g base:Nat)(bs:List Nat)(A:Option Addr)(c at_:Nat)(er:Int)(n:Nat)(e:Ending)(w':World):Prop:=
 ∃v,e= .returned v/\w'.ownsRow w 5 1 v (AZ bs at_ er n).length (cZ .u8 (AZ bs at_ er n))/\Cur w' g base bs A c (takeA bs at_ er n) (Bh bs at_ er n)/\Kept (AW g w) w w'
def Kq(w:World)(g ob:Nat)(bs:List Nat)(at_ n:Nat)(k:Nat)(e2:Int)(w':World):Prop:=
 Kept (fun x=>x<w.heap.size/\x≠g/\x≠ob) w w'/\(k:Int)=(if bs.length-at_<n then 0 else n)/\e2=(if bs.length-at_<n then 1 else 0)/\
  ∃v,Blk w' ob 28 #[v]/\w'.ownsRow w 5 1 v (AZ bs at_ 0 n).length (cZ .u8 (AZ bs at_ 0 n))
theorem Vp(w:World)(g base nb ob:Nat)(bs:List Nat)(A:Option Addr)(c at_ n:Nat)(ag:bs.length<=100000)(hn:n<=1000000000)(h:Cur w g base bs A c at_ 0)(N:Blk w nb 3 #[n])(y:Blk w ob 28 #[()]):
 Calls prog 239 #[.slice (xZ A at_ c 1) (bs.length-at_) (c-at_), .pointer (some ⟨nb,0,none⟩), .pointer (some ⟨ob,0,none⟩)] w fun e w'=>∃ (k:Nat) (e2:Int),e= .returned (.tuple #[.int .i64 k,e2])/\k<=100000/\Cur w' g base bs A c at_ 0/\Kq w g ob bs at_ n k e2 w':=by
 have d0:=N.iO 0;have d1:=y.iO 0;have f1:=y.frozen 0;have G:=Da h.own;have Z:=h.le;have E:=Cv (own_row h.own) Z G.2;have i:=aD h.own;have aa:=Blk.apart y h.blk iX;unfold Kq;rw[show AZ bs at_ 0 n=if bs.length-at_<n then []else(bs.drop at_).take n from Aa mY];by_cases j:bs.length-at_<n
 ·rw[Ab j,Ab j,Ab j];have g0:=iR ((n:Int)<0)
  have g1:=iQ (((bs.length-at_:Nat):Int)<(n:Int))
  have g2:=iQ (bs.length-at_<n)
  have H:=hid h;have HO:=hid y;clear E i G j h N y;go_enter func239,ntmps239;go_wp2_with fail;go_ret2;exact⟨0,1,rfl,kR,H.out,Kept.refl _ _,rfl,rfl,_,HO.out,Aq _ _ _ _⟩
 ·rw[Aa j,Aa j,Aa j];have g0:=iR ((n:Int)<0)
  have g1:=iR (((bs.length-at_:Nat):Int)<(n:Int))
  have g2:=iR (bs.length-at_<n)
  have hcut:∀a,xZ A at_ c 1=some a->a.add 0=a:=by
   intro a ha;unfold xZ at ha;split at ha
   ·exact i a ha
   ·cases A with
    |none=>cases ha
    |some a0=>
     have h0:=i a0 rfl;injection ha with ha;subst ha;rcases h.own.2 with ⟨hv,_⟩|⟨gg,ah,cur,hv,_⟩
     ·cases hv
     ·injection hv with e1 e2 e3;injection e1 with e1;subst e1;show Addr.add (Addr.add ⟨gg,0,none⟩ (at_*1)) 0=Addr.add ⟨gg,0,none⟩ (at_*1);rw[Fp,Fp,CT]
  have ks:=fun wx=>CX (P:=prog) (t:=28) (s:=1) underlying28 (fun _=>by kernel_rfl) (xZ A at_ c 1) (bs.length-at_) (c-at_) .i64 (n:Int) n rfl (by have:=G.2;omega) hcut wx
  have J:xZ A at_ c 1=none->n=0/\c-at_=0:=by
   intro ha
   have hA:A=none:=by
    unfold xZ at ha;split at ha
    ·exact ha
    ·cases A with
     |none=>rfl
     |some a=>cases ha
   have:=G.1 hA;omega
  have Q:((bs.drop at_).take n).length=n:=lm
  have D:=hid (Hp w (xZ A at_ c 1) n (c-at_) ((bs.drop at_).take n) Q kR J (Dd E kR));have H:=hid h;have HO:=hid y;generalize ab:(bs.drop at_).take n=ls at *;have ac:=hid Q;generalize xZ A at_ c 1=A1 at *;have ae:n<=100000:=kR
  clear E i G j h N y hcut J ab Q;go_enter func239,ntmps239;go_wp2_with fail;refine D.out.mono ?_;rintro e w1 ⟨v,rfl,L,hb⟩;obtain⟨A2,c2,rfl⟩:=aZ L;have z:=HO.out.step hb;have h1:=H.out.step hb;have hz:=hb.size;have k1:=z.iO 0;have k2:=z.frozen 0;have af:=HO.out.lt;have k0:w1.cell? ⟨nb,0,none⟩=some (.int .i64 n):=(hb.cell (p:=⟨nb,0,none⟩) (World.block_lt_of_cell? _ _ d0)).trans d0;have U:nb≠ob:=by intro e;subst e;rw[d0]at d1;cases d1
  have k3:(w1.setCell ⟨ob,0,none⟩ (.slice A2 n c2)).cell? ⟨nb,0,none⟩=some (.int .i64 n):=by rw[World.cell?_setCell_other _ _ _ _ (by intro e;injection e with e _;exact U e.symm)];exact k0
  have H1:=hid h1;have M:=hid z;have Y:=hid L;have HB:=hid hb;clear h1 z L hb D HO H d0 d1 f1;go_wp2_with fail;go_ret2;refine⟨n,0,rfl,ae,?_,?_,rfl,rfl,_,M.out.set 0 _,?_⟩
  ·exact⟨H1.out.blk.far (fun e=>aa e.symm) _,sZ H1.out.own (fZ H1.out.own M.out iX) _,Z,H1.out.lo⟩
  ·exact(Kept.of_below HB.out (fun x hx=>hx.1)).set (fun h=>h.2.2 rfl) _
  ·rw[ac.out];exact sZ Y.out (fZ Y.out M.out iX) _
theorem FU(bs:List Nat)(at_ n:Nat):AZ bs at_ 0 n=if bs.length-at_<n then []else(bs.drop at_).take n:=Aa mY
theorem G2(bs:List Nat)(at_ n:Nat):takeA bs at_ 0 n=if bs.length-at_<n then at_ else at_+n:=Aa mY
theorem IP(bs:List Nat)(at_ n:Nat):Bh bs at_ 0 n=if bs.length-at_<n then 1 else 0:=Aa mY
theorem Pr(bs:List Nat)(at_:Nat)(er:Int)(n:Nat):(AZ bs at_ er n).length<=n:=by
 unfold AZ;split
 ·simp
 ·split
  ·simp
  ·rw[AN];omega
theorem GL(bs:List Nat)(at_:Nat)(er:Int)(n:Nat)(h:at_<=bs.length):takeA bs at_ er n<=bs.length:=by
 unfold takeA;split
 ·exact h
 ·split
  ·exact h
  ·omega
theorem Ic(w:World)(g base:Nat)(bs:List Nat)(A:Option Addr)(c at_:Nat)(er:Int)(n:Nat)(ab:bs.length<=100000)(hn:n<=1000000000)(h:Cur w g base bs A c at_ er):
 Calls prog 187 #[.pointer (some ⟨g,0,none⟩),n] w (IH w g base bs A c at_ er n):=by
 have ae:=h.blk.lt;have h2:Cur ((w.alloc (.cells #[n] 3)).alloc (.cells #[()] 28)) g base bs A c at_ er:=(h.step (bZ (Ag _ _))).step (bZ (Ag _ _));have N:Blk ((w.alloc (.cells #[n] 3)).alloc (.cells #[()] 28)) w 3 #[n]:=(Blk.made _ _ _).alloc _;have J:Blk ((w.alloc (.cells #[n] 3)).alloc (.cells #[()] 28)) (w.heap.size+1) 28 #[()]:=Blk.made_at _ _ _ mY;have Q:Kept (fun x=>x<w.heap.size/\x≠g) w ((w.alloc (.cells #[n] 3)).alloc (.cells #[()] 28)):=Kept.of_below (by(repeat (with_reducible first|exact Ag _ _|assumption|refine Ak ?_ |refine below_drewN ?_ _|refine qZ ?_ |refine bZ ?_ |refine eZ iV ?_ |refine belA ?_ |refine rZ iV ?_)):aO w _) (fun x hx=>hx.1);have af:((w.alloc (.cells #[n] 3)).alloc (.cells #[()] 28)).heap.size=w.heap.size+2:=mY
 have ag:=h.le;unfold IH;by_cases he:er=0
 ·subst he;have aa:∀M wx,(callFunc 239 M).run prog wx= .ok (.enter 239 M) wx:=by intro M wx;simp[callFunc,go_sem,func239];rfl
  have D:=fun w2 (hc2:Cur w2 g base bs A c at_ 0) (N:Blk w2 w 3 #[n]) (J:Blk w2 (w.heap.size+1) 28 #[()])=>L6 w2 g base bs A c at_ hc2 ab 239 #[.pointer (some ⟨w,0,none⟩), .pointer (some ⟨w.heap.size+1,0,none⟩)] (fun k e2 w'=>Kq w2 g (w.heap.size+1) bs at_ n k e2 w') aa
   (fun q=>(Vp (w2.drewN q) g base w (w.heap.size+1) bs A c at_ n ab hn (hc2.drewN q) (N.drewN q) (J.drewN q)).mono fun e w' ⟨k,e2,h1,h2,h3,h4⟩=>⟨k,e2,h1,h2,h3,⟨⟨h4.1.os,h4.1.tape,h4.1.output,h4.1.size,h4.1.block⟩,h4.2⟩⟩)
  have D:=hid (D _ h2 N J);have HK:=hid Q;clear aa h2 N J Q;have ac:w.heap.size+1≠g:=kR
  by_cases y:bs.length-at_<n
  ·have eO:AZ bs at_ 0 n= []:=(FU _ _ _).trans (Ab y);have eA:takeA bs at_ 0 n=at_:=(G2 _ _ _).trans (Ab y);have eE:Bh bs at_ 0 n=1:=(IP _ _ _).trans (Ab y);unfold Kq at D;rw[eO,Ab y,Ab y]at D;rw[eO,eA,eE];clear eO eA eE y;go_enter func187,ntmps187;go_wp2_with fail;refine D.out.mono ?_;rintro e w4 ⟨k,e2,w3,⟨j,Y,Z,v,z,i⟩,E,G⟩;have L:Hid (Kept (fun x=>x<w.heap.size/\x≠g) w w3):=HK.out.trans ⟨j.os,j.tape,j.output,j.size,fun x hx=>j.block x ⟨kR,hx.2,kR⟩⟩;obtain⟨va,vc,rfl⟩:=aZ i;subst Z;rcases G with ⟨_,rfl,rfl⟩|⟨h0,_,_⟩
   ·have hB:=z.far (fun e=>ac e) (p:=⟨g,2,none⟩) (.int .i64 1);have d0:=hB.iO 0;have HC:=hid (E.setErr 1);have HO:=hid (iZ (sZ (p:=⟨g,2,none⟩) i (fZ i E.blk iX) (.int .i64 1)) (show w.heap.size<=_ by omega));have U:Hid (Kept (fun x=>x<w.heap.size/\x≠g) w (w3.setCell ⟨g,2,none⟩ (.int .i64 1))):=L.out.set (fun h=>h.2 rfl) _;generalize w3.setCell ⟨g,2,none⟩ (.int .i64 1)=w5 at *;clear hB z i E j D L HK Y;go_wp2_with fail;go_ret;exact⟨_,rfl,HO.out,HC.out,U.out⟩
   ·cases h0
  ·have ah:n<=bs.length-at_:=kR;have eO:AZ bs at_ 0 n=(bs.drop at_).take n:=(FU _ _ _).trans (Aa y);have eA:takeA bs at_ 0 n=at_+n:=(G2 _ _ _).trans (Aa y);have eE:Bh bs at_ 0 n=0:=(IP _ _ _).trans (Aa y);unfold Kq at D;rw[eO,Aa y,Aa y]at D;rw[eO,eA,eE];clear eO eA eE y;generalize (bs.drop at_).take n=ls at *;go_enter func187,ntmps187;go_wp2_with fail;refine D.out.mono ?_;rintro e w4 ⟨k,e2,w3,⟨j,Y,Z,v,z,i⟩,E,G⟩;have L:Hid (Kept (fun x=>x<w.heap.size/\x≠g) w w3):=HK.out.trans ⟨j.os,j.tape,j.output,j.size,fun x hx=>j.block x ⟨kR,hx.2,kR⟩⟩;obtain⟨va,vc,rfl⟩:=aZ i;subst Z;rcases G with ⟨h0,_,_⟩|⟨_,rfl,rfl⟩
   ·exact absurd rfl h0
   ·obtain rfl:k=n:=by omega
    have hB:=z.far (fun e=>ac e) (p:=⟨g,1,none⟩) (.int .i64 (at_+k:Nat));have d0:=hB.iO 0;have HC:=hid (E.setAt (at_+k) kR);have HO:=hid (iZ (sZ (p:=⟨g,1,none⟩) i (fZ i E.blk iX) (.int .i64 (at_+k:Nat))) (show w.heap.size<=_ by omega));have U:Hid (Kept (fun x=>x<w.heap.size/\x≠g) w (w3.setCell ⟨g,1,none⟩ (.int .i64 (at_+k:Nat)))):=L.out.set (fun h=>h.2 rfl) _;generalize w3.setCell ⟨g,1,none⟩ (.int .i64 (at_+k:Nat))=w5 at *;clear hB z i E j D L HK Y;go_wp2_with fail;go_ret;exact⟨_,rfl,HO.out,HC.out,U.out⟩
 ·have D:=hid (zX _ g base bs A c at_ er h2 he (.func (.func 239) #[] #[.pointer (some ⟨w,0,none⟩), .pointer (some ⟨w.heap.size+1,0,none⟩)]));have eO:AZ bs at_ er n= []:=Ab he;have eA:takeA bs at_ er n=at_:=Ab he;have eE:Bh bs at_ er n=er:=Ab he;rw[eO,eA,eE];have HK:=hid Q;have HC:=hid h2;have d0:=J.iO 0;clear h2 N J Q he eO eA eE;go_enter func187,ntmps187;go_wp2_with fail;refine D.out.mono ?_;rintro e w4 ⟨rfl,rfl⟩;go_wp2_with fail;go_ret;exact⟨_,rfl,Aq _ _ _ _,HC.out,HK.out⟩
def Dz(bs:List Nat)(at_:Nat)(er:Int):Nat:=if er≠0 then 0 else bs.getD at_ 0
theorem NZ(w:World)(g base:Nat)(bs:List Nat)(A:Option Addr)(c at_:Nat)(er:Int)(j:bs.length<=100000)(h:Cur w g base bs A c at_ er):
 Calls prog 219 #[.pointer (some ⟨g,0,none⟩)] w fun e w'=>e= .returned (.int .u8 (Dz bs at_ er:Nat))/\Cur w' g base bs A c (takeA bs at_ er 1) (Bh bs at_ er 1)/\Kept (AW g w) w w':=by
 have D:=Ic w g base bs A c at_ er 1 j kR h;unfold IH at D;by_cases hc:er=0/\at_<bs.length
 ·have hO:AZ bs at_ er 1= [bs.getD at_ 0]:=by rw[hc.1,FU,Aa kR,CU hc.2,Ar,AE hc.2];rfl
  have hV:Dz bs at_ er=bs.getD at_ 0:=Aa (by simp[hc.1]);rw[hO]at D;rw[hV];have D:=hid D;clear hO hV hc h;generalize bs.getD at_ 0=x at *;go_enter func219,ntmps219;go_wp2_with fail;refine D.out.mono ?_;rintro e w1 ⟨v,rfl,i,hc,hk⟩;obtain⟨g2,c2,hv,_⟩:=i.form mY;subst hv;have c0:=i.cellAt 0 mY;simp only[cZ,List.map_cons,List.map_nil]at c0;have HC:=hid hc;have HK:=hid hk;clear i hc hk D;go_wp2_with fail;go_ret;exact⟨rfl,HC.out,HK.out⟩
 ·have hO:AZ bs at_ er 1= []:=by
   by_cases he:er=0
   ·rw[he,FU,Ab kR]
   ·exact Ab he
  have hV:Dz bs at_ er=0:=by
   unfold Dz;split
   ·rfl
   ·rw[Ar,GV kR];rfl
  rw[hO]at D;rw[hV];have D:=hid D;clear hO hV hc h;go_enter func219,ntmps219;go_wp2_with fail;refine D.out.mono ?_;rintro e w1 ⟨v,rfl,i,hc,hk⟩;obtain⟨A2,c2,rfl⟩:=aZ i;have HC:=hid hc;have HK:=hid hk;simp only[List.length_nil]at i;clear i hc hk D;go_wp2_with fail;go_ret;exact⟨rfl,HC.out,HK.out⟩
def zZ(most:Nat)(bs:List Nat)(at_:Nat)(er:Int):Nat:=if er≠0 then 0 else(Bq most (bs.drop at_)).1
def nZ(most:Nat)(bs:List Nat)(at_:Nat)(er:Int):Nat:=if er≠0 then at_ else at_+(Bq most (bs.drop at_)).2.1
def oZ(most:Nat)(bs:List Nat)(at_:Nat)(er:Int):Int:=if er≠0 then er else(Bq most (bs.drop at_)).2.2
theorem YA(w:World)(g base mb ob:Nat)(bs:List Nat)(A:Option Addr)(c at_ most:Nat)(M:bs.length<=100000)(h8:∀x∈bs,x<=255)(z:most<=1000000000)(h:Cur w g base bs A c at_ 0)(E:Blk w mb 3 #[most])(i:Blk w ob 3 #[iT]):
 Calls prog 189 #[.slice (xZ A at_ c 1) (bs.length-at_) (c-at_), .pointer (some ⟨mb,0,none⟩), .pointer (some ⟨ob,0,none⟩)] w fun e w'=>∃ (k:Nat) (e2:Int),e= .returned (.tuple #[.int .i64 k,e2])/\k<=100000/\Cur w' g base bs A c at_ 0/\
  (Kept (fun x=>x≠ob) w w'/\k=(Bq most (bs.drop at_)).2.1/\e2=(Bq most (bs.drop at_)).2.2/\Blk w' ob 3 #[.int .i64 (Bq most (bs.drop at_)).1]):=by
 have d0:=E.iO 0;have f1:=i.frozen 0;have d1:=i.iO 0;have G:=Da h.own;have j:=Cv (own_row h.own) h.le G.2;have y:∀x∈bs.drop at_,x<=255:=fun x hx=>h8 x (Be hx);have D:=Oh w (xZ A at_ c 1) (bs.length-at_) (c-at_) (bs.drop at_) most z (by rw[AK]) kR y j;have J:=FC most (bs.drop at_) y;have hk:(Bq most (bs.drop at_)).2.1<=100000:=by have:=J.2.1;rw[AK]at this;omega
 generalize Bq most (bs.drop at_)=R at *;have L:=Blk.apart i h.blk iX;have D:=hid D;have H:=hid h;have HO:=hid i;generalize xZ A at_ c 1=A1 at *;clear j y J h i E G;go_enter func189,ntmps189;go_wp2_with fail;refine D.out.mono ?_;rintro e w1 ⟨rfl,rfl⟩;go_wp2_with fail;go_ret2;refine⟨R.2.1,R.2.2,rfl,hk,?_,(Kept.refl _ _).set (fun h=>h rfl) _,rfl,rfl,HO.out.set 0 _⟩;exact⟨H.out.blk.far (fun e=>L e.symm) _,sZ H.out.own (fZ H.out.own HO.out iX) _,H.out.le,H.out.lo⟩
theorem GJ(w:World)(g base:Nat)(bs:List Nat)(A:Option Addr)(c at_:Nat)(er:Int)(most:Nat)(ae:bs.length<=100000)(h8:∀x∈bs,x<=255)(Z:most<=1000000000)(h:Cur w g base bs A c at_ er):
 Calls prog 112 #[.pointer (some ⟨g,0,none⟩),most] w fun e w'=>e= .returned (.int .i64 (zZ most bs at_ er:Nat))/\Cur w' g base bs A c (nZ most bs at_ er) (oZ most bs at_ er)/\Kept (AW g w) w w':=by
 have ai:=h.blk.lt;have h2:Cur ((w.alloc (.cells #[most] 3)).alloc (.cells #[iT] 3)) g base bs A c at_ er:=(h.step (bZ (Ag _ _))).step (bZ (Ag _ _));have M:Blk ((w.alloc (.cells #[most] 3)).alloc (.cells #[iT] 3)) w 3 #[most]:=(Blk.made _ _ _).alloc _;have N:Blk ((w.alloc (.cells #[most] 3)).alloc (.cells #[iT] 3)) (w.heap.size+1) 3 #[iT]:=Blk.made_at _ _ _ mY;have Q:Kept (fun x=>x<w.heap.size/\x≠g) w ((w.alloc (.cells #[most] 3)).alloc (.cells #[iT] 3)):=Kept.of_below (by(repeat (with_reducible first|exact Ag _ _|assumption|refine Ak ?_ |refine below_drewN ?_ _|refine qZ ?_ |refine bZ ?_ |refine eZ iV ?_ |refine belA ?_ |refine rZ iV ?_)):aO w _) (fun x hx=>hx.1);have aj:=h.le;unfold AW;by_cases he:er=0
 ·subst he;have ab:∀L wx,(callFunc 189 L).run prog wx= .ok (.enter 189 L) wx:=by intro L wx;simp[callFunc,go_sem,func189];rfl
  have D:=fun w2 (hc2:Cur w2 g base bs A c at_ 0) (M:Blk w2 w 3 #[most]) (N:Blk w2 (w.heap.size+1) 3 #[iT])=>L6 w2 g base bs A c at_ hc2 ae 189 #[.pointer (some ⟨w,0,none⟩), .pointer (some ⟨w.heap.size+1,0,none⟩)]
   (fun k e2 w'=>Kept (fun x=>x≠w.heap.size+1) w2 w'/\k=(Bq most (bs.drop at_)).2.1/\e2=(Bq most (bs.drop at_)).2.2/\Blk w' (w.heap.size+1) 3 #[.int .i64 (Bq most (bs.drop at_)).1]) ab
   (fun q=>(YA (w2.drewN q) g base w (w.heap.size+1) bs A c at_ most ae h8 Z (hc2.drewN q) (M.drewN q) (N.drewN q)).mono fun e w' ⟨k,e2,h1,h2,h3,h4⟩=>⟨k,e2,h1,h2,h3,⟨⟨h4.1.os,h4.1.tape,h4.1.output,h4.1.size,h4.1.block⟩,h4.2⟩⟩)
  have D:=hid (D _ h2 M N);have af:∀x∈bs.drop at_,x<=255:=fun x hx=>h8 x (Be hx);have Y:=FC most (bs.drop at_) af;rw[AK]at Y;have eV:zZ most bs at_ 0=(Bq most (bs.drop at_)).1:=Aa mY;have eA:nZ most bs at_ 0=at_+(Bq most (bs.drop at_)).2.1:=Aa mY;have eE:oZ most bs at_ 0=(Bq most (bs.drop at_)).2.2:=Aa mY;rw[eV,eA,eE];generalize Bq most (bs.drop at_)=R at *;have HK:=hid Q;have ag:w.heap.size+1≠g:=kR
  have ac:=hid Y;clear ab h2 M N Q af Y eV eA eE;by_cases hR:R.2.2=0
  ·have ah:at_+R.2.1<=bs.length:=(by have:=ac.out.2.1;omega);go_enter func112,ntmps112;go_wp2_with fail;refine D.out.mono ?_;rintro e w4 ⟨k,e2,w3,⟨i,z,E,y⟩,G,j⟩;rcases j with ⟨h0,_,_⟩|⟨_,rfl,rfl⟩
   ·exact absurd (E.trans hR) h0
   ·have J:Hid (Kept (fun x=>x<w.heap.size/\x≠g) w w3):=HK.out.trans ⟨i.os,i.tape,i.output,i.size,fun x hx=>i.block x kR⟩;have hB:=y.far (fun e=>ag e) (p:=⟨g,1,none⟩) (.int .i64 (at_+k:Nat));have d0:=hB.iO 0;have HC:=hid (G.setAt (at_+k) kR);rw[z]at HC;have U:Hid (Kept (fun x=>x<w.heap.size/\x≠g) w (w3.setCell ⟨g,1,none⟩ (.int .i64 (at_+k:Nat)))):=J.out.set (fun h=>h.2 rfl) _;rw[<-z]at HC;have aa:Hid (Cur (w3.setCell ⟨g,1,none⟩ (.int .i64 (at_+k:Nat))) g base bs A c (at_+R.2.1) R.2.2):=l9;generalize w3.setCell ⟨g,1,none⟩ (.int .i64 (at_+k:Nat))=w5 at *;clear hB y G i D J HK z E HC hR;go_wp2_with fail;go_ret;exact⟨rfl,aa.out,U.out⟩
  ·have hz:=ac.out.2.2.2.1 hR;go_enter func112,ntmps112;go_wp2_with fail;refine D.out.mono ?_;rintro e w4 ⟨k,e2,w3,⟨i,z,E,y⟩,G,j⟩;rcases j with ⟨_,rfl,rfl⟩|⟨h0,_,_⟩
   ·have J:Hid (Kept (fun x=>x<w.heap.size/\x≠g) w w3):=HK.out.trans ⟨i.os,i.tape,i.output,i.size,fun x hx=>i.block x kR⟩;have aa:Hid (Cur (w3.setCell ⟨g,2,none⟩ (.int .i64 e2)) g base bs A c (at_+R.2.1) R.2.2):=mq;have U:Hid (Kept (fun x=>x<w.heap.size/\x≠g) w (w3.setCell ⟨g,2,none⟩ (.int .i64 e2))):=J.out.set (fun h=>h.2 rfl) _;generalize w3.setCell ⟨g,2,none⟩ (.int .i64 e2)=w5 at *;have HZ:=hid hz.1;clear y G i D J HK z E hR hz;go_wp2_with fail;go_ret;exact⟨by rw[HZ.out];rfl,aa.out,U.out⟩
   ·exact absurd (E.symm.trans h0) hR
 ·have D:=hid (zX _ g base bs A c at_ er h2 he (.func (.func 189) #[] #[.pointer (some ⟨w,0,none⟩), .pointer (some ⟨w.heap.size+1,0,none⟩)]));have eV:zZ most bs at_ er=0:=Ab he;have eA:nZ most bs at_ er=at_:=Ab he;have eE:oZ most bs at_ er=er:=Ab he;rw[eV,eA,eE];have HK:=hid Q;have HC:=hid h2;clear h2 M N Q he eV eA eE;go_enter func112,ntmps112;go_wp2_with fail;refine D.out.mono ?_;rintro e w4 ⟨rfl,rfl⟩;go_wp2_with fail;go_ret;exact⟨rfl,HC.out,HK.out⟩
end Nums
namespace Nums
open Go.RowKit Mem Own Canon
theorem NT{P:Program}{j:Array Oper}{o:Oper}{a:Act}{K:Act->World->Prop}{Q:Exit->Act->World->Prop}{E:Prop}(y:o.guard=none)(s x:Operand)(t:TypeId)
 (ho:o.op= .call {callee:= .builtin .append,args:=#[s,x],argTypes:=#[t,t] })
 (base:Nat)(e:TypeId)(i:TypeInfo)(z:Value)(size bytes:Nat)(ht:P.underlying t=some (.slice e))(hi:P.info? e=some i)(hz:i.zero=some z)
 (hsize:i.size=size)(hby:i.bytes=bytes)(hzs:z.cells.size=size)(hsz:0<size)
 (v:Value)(n:Nat)(xs:List Value)(hs:a.eval s=v)(hown:w.ownsRow base e size v n xs)
 (A:Option Addr)(m c:Nat)(news:List Value)(hx:a.eval x= .slice A m c)(hsrc:Src w A m c size news)(h1:∀u∈news,u.oneCell'=true)
 (h63:n+m<=maxLen)(hbytes:(n+m)*bytes<=140737488355328)(hbase:base<=w.heap.size)
 (h:∀A' c' w',w'.ownsRow base e size (.slice A' (n+m) c') (n+m) (xs++news)->w.grownBy w' v.ownBlock->K (a.put o.dst (.slice A' (n+m) c')) w'):
 if Region.wanted o (yielded j a.tmps)=true then Oper.wp P o a w K Q else E:=by
 have hw:Region.wanted o (yielded j a.tmps)=true:=by simp[Region.wanted,y]
 rw[Ab hw];obtain⟨v',w',hr,h2,h3,h5⟩:=LX (P:=P) w base t o.type e i z size bytes ht hi hz hsize hby hzs hsz v n xs hown A m c news hsrc h1 h63 hbytes hbase;obtain⟨A',c',rfl⟩:=aZ h2;unfold Oper.wp execOp;simp only[ho,resolve,invoke,builtin,Sem.run_bind,Sem.run_pure,Result.andThen_ok,List.map_toArray,List.map_cons,List.map_nil,hs,hx,hr];exact h A' c' w' h2 h3
theorem WP(w:World)(A:Option Addr)(n c at_:Nat)(ls:List Nat)(hn:ls.length=n)(hN:n<=100000)(au:at_<=n)(h8:∀x∈ls,x<=255)(ha:Row w w A n 1 (jZ .u8 ls)):
 Calls prog 263 #[.slice A n c,at_] w fun e w'=>e= .returned (.tuple #[.int .u64 (Bi (ls.drop at_) 0 0).1, .int .i64 (at_+(Bi (ls.drop at_) 0 0).2.1:Nat), .int .i64 (Bi (ls.drop at_) 0 0).2.2])/\w'=w:=by
 have HA:=hid ha;have HN:=hid hn;have H8:=hid h8;clear ha hn h8;obtain⟨R,hR⟩:=iS (Bi (ls.drop at_) 0 0);rw[<-hR];have HR:=hid hR;clear hR;go_enter func263,ntmps263;go_wp2_with fail;go_loopw [7,8,9] (fun xv mv i wx=>∃k x m:Nat,at_+k<=n/\k<=9/\xv= .int .u64 x/\mv= .int .u64 m/\i= .int .i64 k/\Hid (x<2 ^ (7*k))/\Hid (m=2 ^ (7*k))/\Hid (Bi (ls.drop (at_+k)) k x=R)/\wx=w) (fun _ _ i _=>n-(intOf i).toNat)
 case atStart=>exact⟨0,0,1,kR,kR,rfl,rfl,rfl,by show _<_;simp,mS,HR.out.symm,rfl⟩
 case round=>
  obtain⟨k,x,m,hk,aq,rfl,rfl,rfl,hx,hm,hS,rfl⟩:=hrel;have s0:IntKind.i64.wrap ((at_:Int)+(k:Int))=((at_+k:Nat):Int):=lD
  obtain⟨j,hj⟩:=iS (at_+k);rw[<-hj]at s0 hS;by_cases af:j<n
  ·obtain⟨b,am,y,rfl,hb,hy,hc⟩:=CD HA.out HN.out af;have L:j<ls.length:=(by rw[HN.out];exact af);have ar:y<=255:=H8.out y (BP hy);have hs:=hS.out;rw[CU L,Bi]at hs;rw[AE L]at hy;injection hy with hy;rw[hy]at hs;have y0:(0:Int)<=(j:Int):=kR;have y1:(j:Int)<(n:Int):=kR;have gl:=iR ((n:Int)<=j);have al:=iR (n<=j);have sy:IntKind.u64.wrap (y:Int)=(y:Int):=lG;by_cases h9:k=9/\y≠1
   ·rw[Ab (.inl h9)]at hs;have g1:((k:Int)==9)=true:=ni;have g2:((y:Int) != 1)=true:=ni;have HS:=hid hs;clear hs hS hx hm h9 hy L hj;go_wp2_with fail
    go_ret3
    exact⟨kY,rfl⟩
   ·by_cases h0:0<k/\y=0
    ·rw[Ab (.inr h0)]at hs;have g1:((k:Int)==9)=false:=lI;have g3:=iQ (0<k);have g4:((y:Int)==0)=true:=ni;have HS:=hid hs;clear hs hS hx hm h9 h0 hy L hj;go_wp2_with fail
     go_ret3
     exact⟨kY,rfl⟩
    ·rw[Aa kR]at hs;have Y:=hx.out;obtain⟨E,hE⟩:=iS (7*k);have Q:=hm.out;rw[<-hE]at hs Y Q;obtain⟨c7,ae⟩:=iS (y % 128);rw[<-ae]at hs;obtain⟨x2,N⟩:=iS (x+c7*2 ^ E);have ag:2 ^ E<=2 ^ 63:=BQ kR kR;have ac:c7*2 ^ E<=127*2 ^ E:=Fk _ (by omega)
     have ah:x+c7*2 ^ E<18446744073709551616:=by
      by_cases z:k=9
      ·have:y=1:=kR;have e7:c7=1:=kR;have ak:E=63:=kR;subst ak;rw[e7];have:x<2 ^ 63:=Y;omega
      ·have:2 ^ E<=2 ^ 56:=BQ kR kR;omega
     obtain⟨t2,aa⟩:=iS (c7*2 ^ E);have e1:(y:Int) % 128=(c7:Int):=kR
     have s3:IntKind.u64.wrap ((c7:Int)*(m:Int))=(t2:Int):=(by rw[BD,aa,Q];have:((c7:Int)*((2 ^ E:Nat):Int))=((c7*2 ^ E:Nat):Int):=(by push_cast;rfl);rw[this];omega);have s4:IntKind.u64.wrap ((x:Int)+(t2:Int))=(x2:Int):=(by rw[BD,N,<-aa];omega);rw[<-N]at hs;have ai:x2<2 ^ (7*(k+1)):=(by rw[N,show 7*(k+1)=E+7 by omega,Nat.pow_add];omega);obtain⟨m2,Z⟩:=iS (m*128);have U:m2=2 ^ (7*(k+1)):=(by rw[Z,Q,show 7*(k+1)=E+7 by omega,Nat.pow_add]);have ab:=hid U;have H5:k≠9->IntKind.u64.wrap ((m:Int)*128)=(m2:Int):=fun h=>by have:2 ^ E<=2 ^ 56:=BQ kR kR;rw[BD,Z];omega
     have H5:=hid H5;have HP:=hid ai;have HS:=hid hs;have H9:Hid (k=9->y=1):=fun h=>kR
     have HJ:=hid hj;clear hs hS hx Y hy L N aa ae ag ac ah hE ai hm Q Z U hj;by_cases G:y<128
     ·have g5:=iQ ((y:Int)<128);have g6:=iQ (y<128);have hs:=HS.out;rw[Ab G]at hs;have J:Hid ((x2,k+1,(0:Int))=R):=hs;have s5:IntKind.i64.wrap ((j:Int)+1)=((at_+(k+1):Nat):Int):=(by have:=HJ.out;rw[Am _ kR];omega);clear hs HS G H5 HJ;by_cases z:k=9
      ·have g1:((k:Int)==9)=true:=ni;have g2:((y:Int) != 1)=false:=j9;have g3:=iQ (0<k);have g4:((y:Int)==0)=false:=j9;clear z h9 h0;go_wp2_with fail
       go_ret3
       refine⟨?_,rfl⟩;rw[<-J.out];simp
      ·have g1:((k:Int)==9)=false:=lI;by_cases M:k=0
       ·have g3:=iR (0<k);clear z M h9 h0;go_wp2_with fail
        go_ret3
        refine⟨?_,rfl⟩;rw[<-J.out];simp
       ·have g3:=iQ (0<k);have g4:((y:Int)==0)=false:=lI;clear z M h9 h0;go_wp2_with fail
        go_ret3
        refine⟨?_,rfl⟩;rw[<-J.out];simp
     ·have g5:=iR ((y:Int)<128);have g6:=iR (y<128);have hs:=HS.out;rw[Aa G]at hs;have J:Hid (Bi (ls.drop (at_+(k+1))) (k+1) x2=R):=(by have h:=hs;rw[show j+1=at_+(k+1) by have:=HJ.out;omega]at h;exact h);have aj:k≠9:=fun h=>by have:=H9.out h;omega
      have s6:=H5.out aj;have s7:IntKind.i64.wrap ((k:Int)+1)=((k+1:Nat):Int):=lD;have an:at_+(k+1)<=n:=(by have:=HJ.out;omega);clear hs HS G H5 HJ;by_cases z:k=9
      ·have g1:((k:Int)==9)=true:=ni;have g2:((y:Int) != 1)=false:=j9;have g3:=iQ (0<k);have g4:((y:Int)==0)=false:=j9;clear z h9 h0;go_wp2_with fail;go_roundw
       case measure=>exact jw
       case rel=>exact jp
      ·have g1:((k:Int)==9)=false:=lI;by_cases M:k=0
       ·have g3:=iR (0<k);clear z M h9 h0;go_wp2_with fail;go_roundw
        case measure=>exact jw
        case rel=>exact jp
       ·have g3:=iQ (0<k);have g4:((y:Int)==0)=false:=lI;clear z M h9 h0;go_wp2_with fail;go_roundw
        case measure=>exact jw
        case rel=>exact jp
  ·obtain rfl:j=n:=by omega
   have hs:=hS.out;rw[Cw lQ,Bi]at hs;have HS:=hid hs;have gl:=iQ ((j:Int)<=j);have al:=iQ (j<=j);clear hs hS hx hm hj;go_wp2_with fail
   go_ret3
   exact⟨kY,rfl⟩
structure RCur (w:World) (g base:Nat) (bs:List Nat) (A:Option Addr) (c at_:Nat) (er:Int):Prop where
 blk:Blk w g 207 #[.slice A bs.length c,at_,er]
 own:w.ownsRow base 5 1 (.slice A bs.length c) bs.length (cZ .u8 bs)
 le:at_<=bs.length
 lo:base<=g
section
variable {w w':World} {g base:Nat} {bs:List Nat} {A:Option Addr} {c at_:Nat} {er:Int}
theorem RCur.drewN(h:RCur w g base bs A c at_ er)(q:Nat):RCur (w.drewN q) g base bs A c at_ er:=⟨h.blk,h.own,h.le,h.lo⟩
theorem RCur.step(h:RCur w g base bs A c at_ er)(hb:aO w w'):RCur w' g base bs A c at_ er:=
 ⟨h.blk.step hb,dZ h.own (fun x hx=>hb.block x (Ae h.own x hx).2),h.le,h.lo⟩
theorem RCur.cells(h:RCur w g base bs A c at_ er):w.cell? ⟨g,0,none⟩=some (.slice A bs.length c)/\w.cell? ⟨g,1,none⟩=some (.int .i64 at_)/\w.cell? ⟨g,2,none⟩=some (.int .i64 er):=⟨h.blk.cell 0,h.blk.cell 1,h.blk.cell 2⟩
theorem RCur.setErr(h:RCur w g base bs A c at_ er)(e2:Int):RCur (w.setCell ⟨g,2,none⟩ (.int .i64 e2)) g base bs A c at_ e2:=
 ⟨h.blk.set 2 _,dZ h.own (fun x hx=>AJ w _ _ x (fun e=>fZ h.own h.blk iX (hx.trans (AI some e)))),h.le,h.lo⟩
theorem RCur.setAt(h:RCur w g base bs A c at_ er)(i:Nat)(h2:i<=bs.length):RCur (w.setCell ⟨g,1,none⟩ (.int .i64 i)) g base bs A c i er:=
 ⟨h.blk.set 1 _,dZ h.own (fun x hx=>AJ w _ _ x (fun e=>fZ h.own h.blk iX (hx.trans (AI some e)))),h2,h.lo⟩
theorem RCur.row(h:RCur w g base bs A c at_ er):Row w w A bs.length 1 (jZ .u8 bs):=own_row h.own
end
theorem Hb(hb:base<=w.heap.size):(w.alloc (.cells #[] 5)).ownsRow base 5 1 (.slice (some ⟨w,0,none⟩) 0 0) 0 []:=
 ⟨rfl, .inr ⟨w.heap.size,0,#[],rfl,hb,heap_alloc_new w _,Ai _,nI,rfl,rfl⟩⟩
theorem rnew_any(w:World)(A:Option Addr)(n c:Nat)(ls:List Nat)(hn:ls.length=n)(Z:n<=100000)(z:A=none->n=0/\c=0)(ha:Row w w A n 1 (jZ .u8 ls)):
 Calls prog 148 #[.slice A n c] w fun e w'=>∃g B d,e= .returned (.pointer (some ⟨g,0,none⟩))/\RCur w' g w ls B d 0 0/\aO w w':=by
 obtain⟨j0,N,U,Y,Q⟩:=info_parts Ct;have j:Hid (aO w (w.alloc (.cells #[] 5))):=bZ (Ag _ _);have HS:=hid (Ig ((ha.below j.out).mono j.out.size) hn z);have HO:=hid (Hb (w:=w) (Ai _));have HN:=hid hn;have G:=j.out.size;clear hn z ha;go_enter func148,ntmps148;go_wp2_with(at_builtin;refine gZ rfl (.tmp 3) (.tmp 4) 28 rfl w 5 j0 _ 1 1 underlying28 N U Y Q rfl iX _ _ _ kU HO.out _ _ _ _ kU HS.out (Cn _ _) nI kR G ?_;intro v4 w4 i J L;have E:Hid (aO w w4):=j.out.grown J G (fun y hy=>(Ae HO.out y hy).1);obtain⟨B,d,rfl⟩:=aZ i;have M:Hid (w4.ownsRow w 5 1 (.slice B (0+n) d) (0+n) (cZ .u8 ls)):=i;clear i J L);have hz:=E.out.size;go_ret;refine⟨w4.heap.size,B,d,rfl,⟨?_,?_,Ba _,hz⟩,lZ hz E.out⟩
 ·rw[HN.out,<-BF n];exact Blk.made _ _ _
 ·have h:=M.out.alloc (.cells #[.slice B (0+n) d,iT,iT] 207);rw[HN.out];rw[BF]at h;exact h
theorem rleft_any(w:World)(g base:Nat)(bs:List Nat)(A:Option Addr)(c at_:Nat)(er:Int)(j:bs.length<=100000)(h:RCur w g base bs A c at_ er):
 Calls prog 155 #[.pointer (some ⟨g,0,none⟩)] w fun e w'=>e= .returned (.int .i64 (bs.length-at_:Nat))/\∃q,w'=w.drewN q:=by
 obtain⟨d0,d1,d2⟩:=h.cells;have i:=h.le;have s1:IntKind.i64.wrap ((bs.length:Int)-(at_:Int))=((bs.length-at_:Nat):Int):=lD
 generalize bs.length-at_=m at *;generalize bs.length=n at *;clear h i;go_enter func155,ntmps155;go_wp2_with fail;go_quiet (fail);go_wp2_with fail;go_ret;exact⟨rfl,_,rfl⟩
theorem Oc(w:World)(g base:Nat)(bs:List Nat)(A:Option Addr)(c at_:Nat)(er e2:Int)(h:RCur w g base bs A c at_ er):
 Calls prog 151 #[.pointer (some ⟨g,0,none⟩),e2] w fun e w'=>e= .returned (.tuple #[])/\RCur w' g base bs A c at_ (Du er e2)/\Kept (fun x=>x≠g) w w':=by
 obtain⟨d0,d1,d2⟩:=h.cells;have f2:=h.blk.frozen 2;have H:=hid h;clear h;unfold Du;by_cases he:er=0
 ·subst he;rw[Ab rfl];go_enter func151,ntmps151;go_wp2_with fail;refine bodyPost_end (Ew rfl _ _ _) rfl ?_;exact⟨rfl,H.out.setErr e2,(Kept.refl _ _).set (fun h=>h rfl) _⟩
 ·rw[Aa he];have g1:(er==0)=false:=by simpa using he
  clear he;go_enter func151,ntmps151;go_wp2_with fail;refine bodyPost_end (Ew rfl _ _ _) rfl ?_;exact⟨rfl,H.out,Kept.refl _ _⟩
end Nums
namespace Nums
open Go.RowKit Mem Own Canon
def IY(w:World)(g base:Nat)(bs:List Nat)(A:Option Addr)(c at_:Nat)(er:Int)(n:Nat)(e:Ending)(w':World):Prop:=
 ∃v,e= .returned v/\w'.ownsRow w 5 1 v (AZ bs at_ er n).length (cZ .u8 (AZ bs at_ er n))/\RCur w' g base bs A c (takeA bs at_ er n) (Bh bs at_ er n)/\Kept (AW g w) w w'
theorem OJ{B k m:Nat}{bs:List Nat}(h:Row w B A n 1 (jZ .u8 bs))(hn:bs.length=n)(hk:k+m<=n)(hc:n<=c)(y:A=none->n=0/\c=0):Src w (xZ A k c 1) m (c-k) 1 (cZ .u8 ((bs.drop k).take m)):=by
 have hr:Row w B (xZ A k c 1) m 1 (jZ .u8 ((bs.drop k).take m)):=h.cut k m hk hc (fun i j hi hj=>by
  obtain rfl:j=0:=kR
  simp only[jZ,List.getD_eq_getElem?_getD,List.getElem?_take,List.getElem?_drop];rw[Ab hi])
 refine Ig hr lm (fun e=> ?_)
 have hA:A=none:=by
  unfold xZ at e;split at e
  ·exact e
  ·cases A with
   |none=>rfl
   |some a=>cases e
 have:=y hA;omega
theorem Ib(w:World)(g base:Nat)(bs:List Nat)(A:Option Addr)(c at_:Nat)(er:Int)(n:Nat)(Z:bs.length<=100000)(hn:n<=1000000000)(h:RCur w g base bs A c at_ er):
 Calls prog 153 #[.pointer (some ⟨g,0,none⟩),n] w (IY w g base bs A c at_ er n):=by
 obtain⟨j0,ag,aj,af,ai⟩:=info_parts Ct;obtain⟨d0,d1,d2⟩:=h.cells;have f1:=h.blk.frozen 1;have f2:=h.blk.frozen 2;have ak:=h.le;have al:=h.blk.lt;have H:=hid h;have g0:=iR ((n:Int)<0)
 unfold IY;by_cases he:er=0
 ·subst he;have D:=hid (rleft_any w g base bs A c at_ 0 Z h);by_cases i:bs.length-at_<n
  ·have eO:AZ bs at_ 0 n= []:=(FU _ _ _).trans (Ab i);have eA:takeA bs at_ 0 n=at_:=(G2 _ _ _).trans (Ab i);have eE:Bh bs at_ 0 n=1:=(IP _ _ _).trans (Ab i);rw[eO,eA,eE];have g1:=iQ (((bs.length-at_:Nat):Int)<(n:Int));have ah:=iQ (bs.length-at_<n);generalize bs.length-at_=m at *;clear eO eA eE h i;go_enter func153,ntmps153;go_wp2_with fail;refine D.out.mono ?_;rintro e w1 ⟨rfl,q,rfl⟩;have H1:Hid (RCur (w.drewN q) g base bs A c at_ 0):=H.out.drewN q;clear D;go_wp2_with fail;go_ret;exact⟨_,rfl,Aq _ _ _ _,H1.out.setErr 1,(Kept.of_below (B:=w.heap.size) nJ (fun x hx=>hx.1)).set (fun h=>h.2 rfl) _⟩
  ·have eO:AZ bs at_ 0 n=(bs.drop at_).take n:=(FU _ _ _).trans (Aa i);have eA:takeA bs at_ 0 n=at_+n:=(G2 _ _ _).trans (Aa i);have eE:Bh bs at_ 0 n=0:=(IP _ _ _).trans (Aa i);rw[eO,eA,eE];have g1:=iR (((bs.length-at_:Nat):Int)<(n:Int));have ah:=iR (bs.length-at_<n);have hl:at_+n<=bs.length:=kR;have E:=Da h.own;have aq:=E.2;have am:A=none->c=0:=fun e=>(E.1 e).2;have Y:Hid (∀wx,aO w wx->Src wx (xZ A at_ c 1) n (c-at_) 1 (cZ .u8 ((bs.drop at_).take n))):=fun wx hb=>OJ (h.row.below hb) rfl hl E.2 E.1;have ks:=fun wx=>Hy (P:=prog) (t:=28) (s:=1) underlying28 (fun _=>by kernel_rfl) A bs.length c .i64 .i64 (at_:Int) ((at_+n:Nat):Int) at_ (at_+n) rfl rfl kR kR wx;rw[Mi]at ks;have Q:((bs.drop at_).take n).length=n:=lm;have s1:IntKind.i64.wrap ((at_:Int)+(n:Int))=((at_+n:Nat):Int):=lD;rw[Q];generalize (bs.drop at_).take n=L at *;generalize bs.length-at_=m at *;obtain⟨k,hk⟩:=iS (at_+n);have an:=hid hk;rw[<-hk]at ks s1 hl ⊢;generalize xZ A at_ c 1=AC at *;generalize c-at_=cc at *;obtain⟨N,hN⟩:=iS bs.length;rw[<-hN]at d0 ks Z hl ak;have M:=hid hN;clear eO eA eE h i E Q hk hN;go_enter func153,ntmps153;go_wp2_with fail;refine D.out.mono ?_;rintro e w1 ⟨rfl,q,rfl⟩;have H1:Hid (RCur (w.drewN q) g base bs A c at_ 0):=H.out.drewN q;clear D;go_upto_region 9 with fail;have j:=hid (show aO w ((w.drewN (q+1)).alloc (.cells #[] 5)) by(repeat (with_reducible first|exact Ag _ _|assumption|refine Ak ?_ |refine below_drewN ?_ _|refine qZ ?_ |refine bZ ?_ |refine eZ iV ?_ |refine belA ?_ |refine rZ iV ?_)));have HO:=hid (Hb (w:=w.drewN (q+1)) (base:=w.heap.size) (Ai _));have HS:=hid (Y.out _ j.out);have U:=j.out.size;have G:=hid (H.out.step j.out);have z0:((w.drewN (q+1)).alloc (.cells #[] 5)).cell? ⟨g,0,none⟩=some (.slice A N c):=(by rw[M.out];exact G.out.cells.1);have z1:((w.drewN (q+1)).alloc (.cells #[] 5)).cell? ⟨g,1,none⟩=some (.int .i64 at_):=G.out.cells.2.1;clear Y
   go_region_held3 (fun wx=>wx.cell? ⟨g,0,none⟩=some (.slice A N c)/\wx.cell? ⟨g,1,none⟩=some (.int .i64 at_)) (first|exact⟨d0,d1⟩|exact⟨z0,z1⟩|exact⟨y0,y1⟩)
    ((refine NT rfl (.tmp 23) (.tmp 38) 28 rfl w 5 j0 _ 1 1 underlying28 ag aj af ai rfl iX _ _ _ kU HO.out _ _ _ _ kU HS.out (Cn _ _) nI kR U ?_;intro A5 c5 w5 z ab;have J:aO w w5:=j.out.grown ab U (fun y hy=>(Ae HO.out y hy).1);have H5:=H.out.step J;have y0:w5.cell? ⟨g,0,none⟩=some (.slice A N c):=by{rw[M.out];exact H5.cells.1};have y1:w5.cell? ⟨g,1,none⟩=some (.int .i64 at_):=H5.cells.2.1;have yf:=H5.blk.frozen 1))
   have ae:=hid J;have aa:=hid H5;have ac:Hid (w5.ownsRow w 5 1 (.slice A5 (0+n) c5) (0+n) (cZ .u8 L)):=z;clear z ab J H5 HO HS j G z0 z1 d0 d1 d2 f1 f2;go_wp2_with fail;go_ret;refine⟨_,rfl,?_,aa.out.setAt k (by rw[<-M.out];exact hl),(Kept.of_below (B:=w.heap.size) ae.out (fun x hx=>hx.1)).set (fun h=>h.2 rfl) _⟩;have h:=sZ (p:=⟨g,1,none⟩) ac.out (fZ ac.out aa.out.blk iX) (.int .i64 (k:Nat));rw[BF]at h;exact h
 ·have g1:(er != 0)=true:=by simpa using he
  have eO:AZ bs at_ er n= []:=Ab he;have eA:takeA bs at_ er n=at_:=Ab he;have eE:Bh bs at_ er n=er:=Ab he;rw[eO,eA,eE];clear eO eA eE h he;go_enter func153,ntmps153;go_wp2_with fail;go_ret;exact⟨_,rfl,Aq _ _ _ _,H.out,Kept.refl _ _⟩
theorem N8(w:World)(g base:Nat)(bs:List Nat)(A:Option Addr)(c at_:Nat)(er:Int)(j:bs.length<=100000)(h:RCur w g base bs A c at_ er):
 Calls prog 150 #[.pointer (some ⟨g,0,none⟩)] w fun e w'=>e= .returned (.int .u8 (Dz bs at_ er:Nat))/\RCur w' g base bs A c (takeA bs at_ er 1) (Bh bs at_ er 1)/\Kept (AW g w) w w':=by
 have D:=Ib w g base bs A c at_ er 1 j kR h;unfold IY at D;by_cases hc:er=0/\at_<bs.length
 ·have hO:AZ bs at_ er 1= [bs.getD at_ 0]:=by rw[hc.1,FU,Aa kR,CU hc.2,Ar,AE hc.2];rfl
  have hV:Dz bs at_ er=bs.getD at_ 0:=Aa (by simp[hc.1]);rw[hO]at D;rw[hV];have D:=hid D;clear hO hV hc h;generalize bs.getD at_ 0=x at *;go_enter func150,ntmps150;go_wp2_with fail;refine D.out.mono ?_;rintro e w1 ⟨v,rfl,i,hc,hk⟩;obtain⟨g2,c2,hv,_⟩:=i.form mY;subst hv;have c0:=i.cellAt 0 mY;simp only[cZ,List.map_cons,List.map_nil]at c0;have HC:=hid hc;have HK:=hid hk;clear i hc hk D;go_wp2_with fail;go_ret;exact⟨rfl,HC.out,HK.out⟩
 ·have hO:AZ bs at_ er 1= []:=by
   by_cases he:er=0
   ·rw[he,FU,Ab kR]
   ·exact Ab he
  have hV:Dz bs at_ er=0:=by
   unfold Dz;split
   ·rfl
   ·rw[Ar,GV kR];rfl
  rw[hO]at D;rw[hV];have D:=hid D;clear hO hV hc h;go_enter func150,ntmps150;go_wp2_with fail;refine D.out.mono ?_;rintro e w1 ⟨v,rfl,i,hc,hk⟩;obtain⟨A2,c2,rfl⟩:=aZ i;have HC:=hid hc;have HK:=hid hk;simp only[List.length_nil]at i;clear i hc hk D;go_wp2_with fail;go_ret;exact⟨rfl,HC.out,HK.out⟩
def CY(bs:List Nat)(at_:Nat)(er:Int):Nat:=if er≠0 then 0 else(Bi (bs.drop at_) 0 0).1
def En(bs:List Nat)(at_:Nat)(er:Int):Nat:=if er≠0 then at_ else at_+(Bi (bs.drop at_) 0 0).2.1
def EE(bs:List Nat)(at_:Nat)(er:Int):Int:=if er≠0 then er else(Bi (bs.drop at_) 0 0).2.2
theorem UX{bs:List Nat}(h8:∀x∈bs,x<=255){at_:Nat}(er:Int)(h:at_<=bs.length):En bs at_ er<=bs.length:=by
 unfold En;split
 ·exact h
 ·have:=(G8 (bs.drop at_) 0 0 (fun x hx=>h8 x (Be hx)) kR mY).2.1;rw[AK]at this;omega
theorem OC(w:World)(g base:Nat)(bs:List Nat)(A:Option Addr)(c at_:Nat)(er:Int)(y:bs.length<=100000)(h8:∀x∈bs,x<=255)(h:RCur w g base bs A c at_ er):
 Calls prog 213 #[.pointer (some ⟨g,0,none⟩)] w fun e w'=>e= .returned (.int .u64 (CY bs at_ er:Nat))/\RCur w' g base bs A c (En bs at_ er) (EE bs at_ er)/\Kept (AW g w) w w':=by
 obtain⟨d0,d1,d2⟩:=h.cells;have f1:=h.blk.frozen 1;have f2:=h.blk.frozen 2;have i:=UX h8 er h.le;have H:=hid h;by_cases he:er=0
 ·subst he;have D:=hid (fun q=>WP (w.drewN q) A bs.length c at_ bs rfl y h.le h8 (h.drewN q).row);have eV:CY bs at_ 0=(Bi (bs.drop at_) 0 0).1:=Aa mY;have eA:En bs at_ 0=at_+(Bi (bs.drop at_) 0 0).2.1:=Aa mY;have eE:EE bs at_ 0=(Bi (bs.drop at_) 0 0).2.2:=Aa mY;rw[<-eV,<-eA,<-eE]at D;generalize CY bs at_ 0=V at *;generalize En bs at_ 0=P at *;generalize EE bs at_ 0=E at *;clear eV eA eE h;obtain⟨N,hN⟩:=iS bs.length;rw[<-hN]at d0 D i;have j:=hid hN;clear hN;go_enter func213,ntmps213;go_wp2_with fail;go_quiet ((go_at_call 263;exact Cq (D.out _)));go_wp2_with fail;go_ret;exact⟨rfl,(((H.out.drewN _).setAt P (by rw[<-j.out];exact i)).setErr E),((Kept.of_below (B:=w.heap.size) nJ (fun x hx=>hx.1)).set (fun h=>h.2 rfl) _).set (fun h=>h.2 rfl) _⟩
 ·have g1:(er != 0)=true:=by simpa using he
  have eV:CY bs at_ er=0:=Ab he;have eA:En bs at_ er=at_:=Ab he;have eE:EE bs at_ er=er:=Ab he;rw[eV,eA,eE];clear eV eA eE h he i;go_enter func213,ntmps213;go_wp2_with fail;go_ret;exact⟨rfl,H.out,Kept.refl _ _⟩
theorem Gm(w:World)(g base:Nat)(bs:List Nat)(A:Option Addr)(c at_:Nat)(er:Int)(most:Nat)(z:bs.length<=100000)(h8:∀x∈bs,x<=255)(J:most<=1000000000)(h:RCur w g base bs A c at_ er):
 Calls prog 149 #[.pointer (some ⟨g,0,none⟩),most] w fun e w'=>e= .returned (.int .i64 (zZ most bs at_ er:Nat))/\RCur w' g base bs A c (nZ most bs at_ er) (oZ most bs at_ er)/\Kept (AW g w) w w':=by
 obtain⟨d0,d1,d2⟩:=h.cells;have D:=hid (OC w g base bs A c at_ er z h8 h);have M:=h.le;have g0:=iR ((most:Int)<0)
 have u1:IntKind.u64.wrap (most:Int)=(most:Int):=lG
 have hV:er=0->CY bs at_ er=(Bi (bs.drop at_) 0 0).1/\En bs at_ er=at_+(Bi (bs.drop at_) 0 0).2.1/\EE bs at_ er=(Bi (bs.drop at_) 0 0).2.2:=fun he=>⟨Aa nr,Aa nr,Aa nr⟩;have y:=G8 (bs.drop at_) 0 0 (fun x hx=>h8 x (Be hx)) kR mY
 have j:(EE bs at_ er≠0->zZ most bs at_ er=0/\nZ most bs at_ er=En bs at_ er/\oZ most bs at_ er=EE bs at_ er)/\(EE bs at_ er=0->most<CY bs at_ er->zZ most bs at_ er=0/\nZ most bs at_ er=at_/\oZ most bs at_ er=6)/\(EE bs at_ er=0->¬most<CY bs at_ er->zZ most bs at_ er=CY bs at_ er/\nZ most bs at_ er=En bs at_ er/\oZ most bs at_ er=0):=by
  by_cases he:er=0
  ·obtain⟨e1,e2,e3⟩:=hV he;have i1:zZ most bs at_ er=(Bq most (bs.drop at_)).1:=Aa nr;have i2:nZ most bs at_ er=at_+(Bq most (bs.drop at_)).2.1:=Aa nr;have i3:oZ most bs at_ er=(Bq most (bs.drop at_)).2.2:=Aa nr;rw[e1,e2,e3,i1,i2,i3];unfold Bq;generalize Bi (bs.drop at_) 0 0=R at *;refine⟨fun h=> ?_,fun h h2=> ?_,fun h h2=> ?_⟩
   ·rw[Ab h];exact⟨rfl,by have:=y.2.2.2.1 h;simp[this.2],rfl⟩
   ·rw[Aa nm,Ab h2];exact⟨rfl,rfl,rfl⟩
   ·rw[Aa nm,Aa h2];exact⟨rfl,rfl,h⟩
  ·have e1:CY bs at_ er=0:=Ab he;have e2:En bs at_ er=at_:=Ab he;have e3:EE bs at_ er=er:=Ab he;have i1:zZ most bs at_ er=0:=Ab he;have i2:nZ most bs at_ er=at_:=Ab he;have i3:oZ most bs at_ er=er:=Ab he;rw[e1,e2,e3,i1,i2,i3];exact⟨fun _=>⟨rfl,rfl,rfl⟩,fun h=>absurd h he,fun h=>absurd h he⟩
 have N:CY bs at_ er<18446744073709551616:=by
  by_cases he:er=0
  ·rw[(hV he).1];exact y.1
  ·rw[show CY bs at_ er=0 from Ab he];omega
 have G:nZ most bs at_ er<=bs.length:=by
  unfold nZ;split
  ·exact M
  ·have:=(FC most (bs.drop at_) (fun x hx=>h8 x (Be hx))).2.1;rw[AK]at this;omega
 generalize zZ most bs at_ er=IV at *;generalize nZ most bs at_ er=IA at *;generalize oZ most bs at_ er=IE at *;generalize CY bs at_ er=V at *;generalize En bs at_ er=NA at *;generalize EE bs at_ er=E at *;clear hV y h8 h;by_cases hE:E=0
 ·by_cases i:most<V
  ·obtain⟨rfl,rfl,rfl⟩:=j.2.1 hE i;have g1:(E != 0)=false:=(by simp[hE]);have g2:=iQ ((most:Int)<V);have L:=iQ (most<V);have HE:=hid hE;clear j hE i;go_enter func149,ntmps149;go_wp2_with fail;refine D.out.mono ?_;rintro e w1 ⟨rfl,hc,hk⟩;have HC:=hid hc;have HK:=hid hk;have e1:=hc.cells.2.1;have d2:=hc.cells.2.2;have f1:=hc.blk.frozen 1;have f2:=hc.blk.frozen 2;clear hc hk D d0;go_wp2_with fail;go_ret;exact⟨rfl,(HC.out.setAt _ G).setErr 6,(HK.out.set (fun h=>h.2 rfl) _).set (fun h=>h.2 rfl) _⟩
  ·obtain⟨rfl,rfl,rfl⟩:=j.2.2 hE i;have g1:(E != 0)=false:=(by simp[hE]);have g2:=iR ((most:Int)<IV);have L:=iR (most<IV);have s2:IntKind.i64.wrap (IV:Int)=(IV:Int):=lB;have HE:=hid hE;clear j hE i;go_enter func149,ntmps149;go_wp2_with fail;refine D.out.mono ?_;rintro e w1 ⟨rfl,hc,hk⟩;have HC:=hid hc;have HK:=hid hk;have d2:=hc.cells.2.2;clear hc hk D d0 d1;go_wp2_with fail;go_ret;exact⟨rfl,by rw[<-HE.out];exact HC.out,HK.out⟩
 ·obtain⟨rfl,rfl,rfl⟩:=j.1 hE;have g1:(IE != 0)=true:=by simpa using hE
  clear j hE;go_enter func149,ntmps149;go_wp2_with fail;refine D.out.mono ?_;rintro e w1 ⟨rfl,hc,hk⟩;have HC:=hid hc;have HK:=hid hk;have d2:=hc.cells.2.2;clear hc hk D d0 d1;go_wp2_with fail;go_ret;exact⟨rfl,HC.out,HK.out⟩
end Nums
namespace Body
open Go.RowKit Mem Own Canon Nums
theorem Yi(w:World)(gb base n c:Nat)(A:Option Addr)(xs:List Value)(hc:w.cell? ⟨gb,0,none⟩=some (.slice A n c))(i:n<=3000000)(ho:w.ownsRow base 3 1 (.slice A n c) n xs)(h:∀u∈xs,u.oneCell'=true):
 Calls prog 15 #[.pointer (some ⟨gb,0,none⟩)] w fun e w'=>∃v,e= .returned v/\w'.ownsRow w 3 1 v n xs/\aO w w':=by
 have D:=hid (UM w base A n c xs i ho h);clear ho h;go_enter func15,ntmps15;go_wp2_with fail;refine D.out.mono ?_;rintro e w1 ⟨v,rfl,ho,hb⟩;obtain⟨A1,c1,rfl⟩:=aZ ho;have HO:=hid ho;have HB:=hid hb;clear ho hb D;go_wp2_with fail;go_ret;exact⟨_,rfl,HO.out,HB.out⟩
end Body
end Go.Proofs.YtfgdoknipbpfhaaGreatDoor
