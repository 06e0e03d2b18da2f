/- The walks of nums.sc -/
import Derived.Test.YtfgdoknipbpfhaaGreatDoorZTwoBack3
import Derived.Laws.Bits64b
import Derived.Laws.EntriesVeiled
import Derived.Deep.AppendLies
namespace Go.Proofs.YtfgdoknipbpfhaaGreatDoor
open Go.Proofs.Tryz
open Go.Lib (hid)
set_option maxHeartbeats 1000000
set_option maxRecDepth 100000
variable{base c i n:Nat}{ls:List Nat}{w:World}{A:Option Addr}{xs:List Value}
open Go.RowKit
def A0:List Nat->Nat->Nat->Nat×Nat×Int
 | [],_,_=>(0,0,1)
 |c :: t,i,x=>if(i=9/\c≠1)∨(0<i/\c=0)then(0,0,2)else if c<128 then(x+c % 128*2 ^ (7*i),i+1,0)else A0 t (i+1) (x+c % 128*2 ^ (7*i))
theorem Jt:∀ (l:List Nat) (i x:Nat),(∀c∈l,c<=255)->i<=9->x<2 ^ (7*i)->(A0 l i x).1<18446744073709551616/\(A0 l i x).2.1<=l.length+i/\((A0 l i x).2.2=0->i<(A0 l i x).2.1)/\((A0 l i x).2.2≠0->(A0 l i x).1=0/\(A0 l i x).2.1=0)/\0<=(A0 l i x).2.2/\(A0 l i x).2.2<=2
 | [],i,x,_,_,_=>by simp[A0]
 |c :: t,i,x,h8,hi,hx=>by
  have hc:=h8 c rX;rw[A0];have hp:2 ^ (7*(i+1))=128*2 ^ (7*i):=rm
  by_cases h1:(i=9/\c≠1)∨(0<i/\c=0)
  ·rw[Ab h1];simp
  ·rw[Aa h1];have hb:x+c % 128*2 ^ (7*i)<2 ^ (7*(i+1)):=(by rw[hp];have:c % 128*2 ^ (7*i)<=127*2 ^ (7*i):=GB _ nj;omega);by_cases h2:c<128
   ·rw[Ab h2];refine⟨?_,sj,fun _=>rX,fun h=>absurd rfl h,rX,rX⟩;by_cases h9:i=9
    ·subst h9;have:c=1:=nj;subst this;have:x<2 ^ 63:=hx;simp;omega
    ·have j:2 ^ (7*(i+1))<=2 ^ 63:=Cm nj nj;show x+c % 128*2 ^ (7*i)<_;omega
   ·rw[Aa h2];have y:i≠9:=nj;have ih:=Jt t (i+1) _ (fun d hd=>h8 d (by simp[hd])) nj hb;refine⟨ih.1,by have:=ih.2.1;simp;omega,fun h=>by have:=ih.2.2.1 h;omega,ih.2.2.2⟩
theorem RM{x t:Nat}(hx:x<2 ^ i)(h:x+t*2 ^ i<18446744073709551616):bits .or .u64 (x:Int) ((t*2 ^ i:Nat):Int)=((x+t*2 ^ i:Nat):Int):=by rw[bits_or_u64_nat x _ nj nj,Nat.mul_comm t,Nat.or_comm,<-Nat.two_pow_add_eq_or_of_lt hx];congr 1;omega
theorem a2h{p:Prop}(h:p:=by
  go_wp2_with fail;go_roundw
  case measure=>exact jq
  case rel=>exact jj):p:=h
theorem a3g{p:Prop}(h:p:=by
  clear j L h9 h0;go_wp2_with fail
  go_ret3
  exact⟨by rw[<-G.out];rfl,rfl⟩):p:=h
theorem Rq(w:World)(A:Option Addr)(n c:Nat)(ls:List Nat)(hn:ls.length=n)(hN:n<=100000)(h8:∀x∈ls,x<=255)(ha:Row w w A n 1 (jZ .u8 ls)):
 Calls prog 241 #[.slice A n c] w fun e w'=>e= .returned (.tuple #[.int .u64 (A0 ls 0 0).1, .int .i64 (A0 ls 0 0).2.1, .int .i64 (A0 ls 0 0).2.2])/\w'=w:=by
 have HA:=hid ha;have HN:=hid hn;have H8:=hid h8;clear ha hn h8;obtain⟨R,hR⟩:=ii (A0 ls 0 0);rw[<-hR];have HR:=hid hR;clear hR;go_enter func241,ntmps241;go_wp2_with fail;go_loopw [2,9] (fun xv i wx=>∃k x:Nat,k<=n/\k<=9/\xv= .int .u64 x/\i= .int .i64 k/\Hid (x<2 ^ (7*k))/\Hid (A0 (ls.drop k) k x=R)/\wx=w) (fun _ i _=>n-(intOf i).toNat)
 case atStart=>exact⟨0,0,nj,nj,rfl,rfl,by show _<_;simp,HR.out.symm,rfl⟩
 case round=>
  obtain⟨k,x,hk,aj,rfl,rfl,hx,hS,rfl⟩:=hrel;by_cases ac:k<n
  ·obtain⟨b,ak,y,rfl,hb,hy,hc⟩:=CO HA.out HN.out ac;have J:k<ls.length:=(by rw[HN.out];exact ac);have ai:y<=255:=H8.out y (Bp hy);have hs:=hS.out;rw[Dl J,A0]at hs;rw[Az J]at hy;injection hy with hy;rw[hy]at hs;have y0:(0:Int)<=(k:Int):=nj;have y1:(k:Int)<(n:Int):=nj;by_cases h9:k=9/\y≠1
   ·rw[Ab (.inl h9)]at hs;have g1:((k:Int)==9)=true:=sj;have g2:((y:Int) != 1)=true:=sj;have HS:=hid hs;clear hs hS hx h9 hy J;go_wp2_with fail
    go_ret3
    exact⟨nu,rfl⟩
   ·by_cases h0:0<k/\y=0
    ·rw[Ab (.inr h0)]at hs;have g1:((k:Int)==9)=false:=qi;have g3:=ic (0<k);have g4:((y:Int)==0)=true:=sj;have HS:=hid hs;clear hs hS hx h9 h0 hy J;go_wp2_with fail
     go_ret3
     exact⟨nu,rfl⟩
    ·rw[Aa nj]at hs;have N:=hx.out;obtain⟨E,hE⟩:=ii (7*k);rw[<-hE]at hs N;obtain⟨c7,Z⟩:=ii (y % 128);rw[<-Z]at hs;obtain⟨x2,Q⟩:=ii (x+c7*2 ^ E);have aa:2 ^ E<=2 ^ 63:=Cm nj nj;have ab:c7*2 ^ E<=127*2 ^ E:=GB _ (by omega)
     have U:x+c7*2 ^ E<18446744073709551616:=by
      by_cases j:k=9
      ·have:y=1:=nj;have e7:c7=1:=nj;have ag:E=63:=nj;subst ag;rw[e7];have:x<2 ^ 63:=N;omega
      ·have:2 ^ E<=2 ^ 56:=Cm nj nj;omega
     obtain⟨t2,Y⟩:=ii (c7*2 ^ E);have s1:IntKind.i64.wrap (7*(k:Int))=(E:Int):=pj
     have e1:bits .andNot .u8 (y:Int) 128=(c7:Int):=(by have h:=u8_andNot_nat y 128 nj nj;rw[show(255-128)=2 ^ 7-1 from rfl,Ow]at h;rw[Z];exact h);have s2:IntKind.u64.wrap (c7:Int)=(c7:Int):=pm;have s3:IntKind.u64.wrap ((c7:Int)*2 ^ E)=(t2:Int):=(by rw[Bi,Y];have:((c7:Int)*2 ^ E)=((c7*2 ^ E:Nat):Int):=(by push_cast;rfl);rw[this];omega);have e2:bits .or .u64 (x:Int) (t2:Int)=(x2:Int):=(by rw[Y,RM N U,Q]);rw[<-Q]at hs;have z0:(0:Int)<=(E:Int):=nj;have z1:(E:Int)<=64:=nj;have ae:x2<2 ^ (7*(k+1)):=qp;have HP:=hid ae;have HS:=hid hs;have H9:Hid (k=9->y=1):=fun h=>nj
     have af:((k:Int)==9&&(y:Int) != 1)=false∨True:= .inr trivial;clear hs hS hx N hy J Q Y Z aa ab U hE ae af;have M:=HS;by_cases z:y<128
     ·have g5:=ic ((y:Int)<128);have g6:=ic (y<128);have hs:=HS.out;rw[Ab z]at hs;have G:=hid hs;have s5:IntKind.i64.wrap ((k:Int)+1)=(k:Int)+1:=pi;clear hs HS M z;by_cases j:k=9
      ·have g1:((k:Int)==9)=true:=sj;have g2:((y:Int) != 1)=false:=ln;have g3:=ic (0<k);have g4:((y:Int)==0)=false:=ln;clear j h9 h0;go_wp2_with fail
       go_ret3
       exact⟨by rw[<-G.out];rfl,rfl⟩
      ·have g1:((k:Int)==9)=false:=qi;by_cases L:k=0
       ·have g3:=ig (0<k);exact a3g
       ·have g3:=ic (0<k);have g4:((y:Int)==0)=false:=qi;exact a3g
     ·have g5:=ig ((y:Int)<128);have g6:=ig (y<128);have hs:=HS.out;rw[Aa z]at hs;have G:=hid hs;have ah:k≠9:=fun h=>by have:=H9.out h;omega
      clear hs HS M z;by_cases j:k=9
      ·have g1:((k:Int)==9)=true:=sj;have g2:((y:Int) != 1)=false:=ln;have g3:=ic (0<k);have g4:((y:Int)==0)=false:=ln;clear j h9 h0;exact a2h
      ·have g1:((k:Int)==9)=false:=qi;by_cases L:k=0
       ·have g3:=ig (0<k);clear j L h9 h0;exact a2h
       ·have g3:=ic (0<k);have g4:((y:Int)==0)=false:=qi;clear j L h9 h0;exact a2h
  ·obtain rfl:k=n:=by omega
   have hs:=hS.out;rw[El py,A0]at hs;have HS:=hid hs;clear hs hS hx;go_wp2_with fail
   go_ret3
   exact⟨nu,rfl⟩
theorem Ab3{k:IntKind}(h:i<ls.length):(dZ k ls)[i*1+0]? =some (jZ k ls i 0):=by simp[dZ,jZ,List.getD_eq_getElem?_getD,h]
theorem Ab5(h:w.ownsRow base 5 1 (.slice A ls.length c) ls.length (dZ .u8 ls)):Row w w A ls.length 1 (jZ .u8 ls):=
 Row.of_own h rfl fun i j hi hj=>by
  obtain rfl:j=0:=nj
  exact Ab3 hi
theorem JT(h:w.ownsRow base 5 1 (.slice A n c) n xs):A=none->n=0/\c=0:=(Et h).1
theorem Yc(h:w.ownsRow base 5 1 (.slice A n c) n xs):∀a,A=some a->a.add 0=a:=by
 intro a ha;subst ha;rcases h.2 with ⟨hv,_⟩|⟨g,i,cur,hv,_⟩
 ·cases hv
 ·injection hv with e1 e2 e3;injection e1 with e1;subst e1;exact Gj g 0 0
def BE(most:Nat)(ls:List Nat):Nat×Nat×Int:=
 if(A0 ls 0 0).2.2≠0 then(0,0,(A0 ls 0 0).2.2)else if most<(A0 ls 0 0).1 then(0,0,6)else A0 ls 0 0
theorem Hu(most:Nat)(ls:List Nat)(h8:∀c∈ls,c<=255):(BE most ls).1<=most/\(BE most ls).2.1<=ls.length/\((BE most ls).2.2=0->1<=(BE most ls).2.1)/\((BE most ls).2.2≠0->(BE most ls).1=0/\(BE most ls).2.1=0)/\0<=(BE most ls).2.2/\(BE most ls).2.2<=6:=by
 have h:=Jt ls 0 0 h8 nj rX;unfold BE;split
 ·rename_i he;exact⟨rX,rX,fun h0=>absurd h0 he,fun _=>⟨rfl,rfl⟩,h.2.2.2.2.1,by have:=h.2.2.2.2.2;show(A0 ls 0 0).2.2<=6;omega⟩
 ·rename_i he;split
  ·exact⟨rX,rX,fun h0=>absurd h0 ip,fun _=>⟨rfl,rfl⟩,rX,rX⟩
  ·exact⟨nj,by have:=h.2.1;omega,fun h0=>by have:=h.2.2.1 h0;omega,h.2.2.2.1,h.2.2.2.2.1,by have:=h.2.2.2.2.2;omega⟩
theorem a1n{p:Prop}(h:p:=by
  go_enter func190,ntmps190;go_wp2_with fail;refine D.out.mono ?_;rintro e w1 ⟨rfl,rfl⟩;go_wp2_with fail
  go_ret3
  exact⟨rfl,rfl⟩):p:=h
theorem Ts(w:World)(A:Option Addr)(n c:Nat)(ls:List Nat)(most:Nat)(h:most<=1000000000)(hn:ls.length=n)(hN:n<=100000)(h8:∀x∈ls,x<=255)(ha:Row w w A n 1 (jZ .u8 ls)):
 Calls prog 190 #[.slice A n c,most] w fun e w'=>e= .returned (.tuple #[.int .i64 (BE most ls).1, .int .i64 (BE most ls).2.1, .int .i64 (BE most ls).2.2])/\w'=w:=by
 have D:=Rq w A n c ls hn hN h8 ha;have hs:=Jt ls 0 0 h8 nj rX;unfold BE;clear hn h8 ha;generalize A0 ls 0 0=R at *;obtain⟨x,k,er⟩:=R;simp only at hs D ⊢;have hx:=hs.1;have D:=hid D;have s1:IntKind.u64.wrap (most:Int)=(most:Int):=pm
 by_cases he:er=0
 ·subst he;rw[Aa rX];by_cases hm:most<x
  ·rw[Ab hm];have g1:=ic ((most:Int)<x);have g2:=ic (most<x);clear hs hm;exact a1n
  ·rw[Aa hm];have g1:=ig ((most:Int)<x);have g2:=ig (most<x);have s2:IntKind.i64.wrap (x:Int)=(x:Int):=pi;clear hs hm;exact a1n
 ·rw[Ab he];have g1:(er != 0)=true:=by simpa using he
  clear hs he;exact a1n
structure Cur (w:World) (g base:Nat) (bs:List Nat) (A:Option Addr) (c at_:Nat) (er:Int):Prop where
 blk:Blk w g 243 #[.slice A bs.length c,at_,er]
 own:w.ownsRow base 5 1 (.slice A bs.length c) bs.length (dZ .u8 bs)
 le:at_<=bs.length
 lo:base<=g
section
variable {w w':World} {g base:Nat} {bs:List Nat} {A:Option Addr} {c at_:Nat} {er:Int}
theorem Cur.drew(h:Cur w g base bs A c at_ er):Cur w.drew g base bs A c at_ er:=⟨h.blk,h.own,h.le,h.lo⟩
theorem Cur.drewN(h:Cur w g base bs A c at_ er)(q:Nat):Cur (w.drewN q) g base bs A c at_ er:=⟨h.blk,h.own,h.le,h.lo⟩
theorem Cur.step(h:Cur w g base bs A c at_ er)(hb:Below w w w'):Cur w' g base bs A c at_ er:=
 ⟨h.blk.step hb,eZ h.own (fun x hx=>hb.block x (Aj h.own x hx).2),h.le,h.lo⟩
theorem Cur.cells(h:Cur w g base bs A c at_ er):w.cell? ⟨g,0,none⟩=some (.slice A bs.length c)/\w.cell? ⟨g,1,none⟩=some (.int .i64 at_)/\w.cell? ⟨g,2,none⟩=some (.int .i64 er):=⟨h.blk.cell 0,h.blk.cell 1,h.blk.cell 2⟩
theorem Cur.setErr(h:Cur w g base bs A c at_ er)(e2:Int):Cur (w.setCell ⟨g,2,none⟩ (.int .i64 e2)) g base bs A c at_ e2:=
 ⟨h.blk.set 2 _,eZ h.own (fun x hx=>AW w _ _ x (fun e=>gZ h.own h.blk ip (hx.trans (Aw some e)))),h.le,h.lo⟩
theorem Cur.setAt(h:Cur w g base bs A c at_ er)(i:Nat)(h2:i<=bs.length):Cur (w.setCell ⟨g,1,none⟩ (.int .i64 i)) g base bs A c i er:=
 ⟨h.blk.set 1 _,eZ h.own (fun x hx=>AW w _ _ x (fun e=>gZ h.own h.blk ip (hx.trans (Aw some e)))),h2,h.lo⟩
end
theorem Ab7(w:World)(A:Option Addr)(n c:Nat)(ls:List Nat)(hn:ls.length=n)(y:n<=100000)(j:A=none->n=0/\c=0)(ha:Row w w A n 1 (jZ .u8 ls)):
 Calls prog 110 #[.slice A n c] w fun e w'=>∃g B d,e= .returned (.pointer (some ⟨g,0,none⟩))/\Cur w' g w ls B d 0 0/\Below w w w':=by
 have D:=hid (IS w A n c ls hn y j ha);have HN:=hid hn;clear hn j ha;go_enter func110,ntmps110;go_wp2_with fail;refine D.out.mono ?_;rintro e w1 ⟨v,rfl,i,hb⟩;obtain⟨B,d,rfl⟩:=bZ i;have hz:=hb.size;have HO:=hid i;have HB:=hid hb;clear i hb D;go_wp2_with fail;go_ret;refine⟨w1.heap.size,B,d,rfl,⟨?_,?_,Bf _,hz⟩,pZ hz HB.out⟩
 ·rw[HN.out];exact Blk.made _ _ _
 ·have h:=HO.out.alloc (.cells #[.slice B n d,ij,ij] 243);rw[HN.out];exact h
theorem Dn(w:World)(g base:Nat)(bs:List Nat)(A:Option Addr)(c at_:Nat)(er:Int)(h:Cur w g base bs A c at_ er):
 Calls prog 113 #[.pointer (some ⟨g,0,none⟩)] w fun e w'=>e= .returned (.int .i64 er)/\w'=w:=by
 obtain⟨d0,d1,d2⟩:=h.cells;clear h;go_enter func113,ntmps113;go_wp2_with fail;go_ret;exact⟨rfl,rfl⟩
theorem Ig(w:World)(g base:Nat)(bs:List Nat)(A:Option Addr)(c at_:Nat)(er:Int)(h:Cur w g base bs A c at_ er):
 Calls prog 195 #[.pointer (some ⟨g,0,none⟩)] w fun e w'=>e= .returned (.int .i64 at_)/\w'=w:=by
 obtain⟨d0,d1,d2⟩:=h.cells;clear h;go_enter func195,ntmps195;go_wp2_with fail;go_ret;exact⟨rfl,rfl⟩
def ES(er e2:Int):Int:=if er=0 then e2 else er
theorem a2x{p:Prop}(h:p:=by go_wp2_with fail;refine bodyPost_end (Cb rfl _ _ _) rfl ?_;exact⟨rfl,H.out.setErr e2,(Kept.refl _ _).set (fun h=>h rfl) _⟩):p:=h
theorem a3l{p:Prop}(h:p:=by go_wp2_with fail;refine bodyPost_end (Cb rfl _ _ _) rfl ?_;exact⟨rfl,H.out,Kept.refl _ _⟩):p:=h
theorem GS(w:World)(g base:Nat)(bs:List Nat)(A:Option Addr)(c at_:Nat)(er e2:Int)(h:Cur w g base bs A c at_ er):
 Calls prog 186 #[.pointer (some ⟨g,0,none⟩),e2] w fun e w'=>e= .returned (.tuple #[])/\Cur w' g base bs A c at_ (ES er e2)/\Kept (fun x=>x≠g) w w':=by
 obtain⟨d0,d1,d2⟩:=h.cells;have f2:=h.blk.frozen 2;have H:=hid h;clear h;unfold ES;by_cases he:er=0
 ·subst he;rw[Ab rfl];go_enter func186,ntmps186;exact a2x
 ·rw[Aa he];have g1:(er==0)=false:=by simpa using he
  clear he;go_enter func186,ntmps186;exact a3l
theorem Ab9(w:World)(g base:Nat)(bs:List Nat)(A:Option Addr)(c at_:Nat)(er:Int)(h:Cur w g base bs A c at_ er):
 Calls prog 240 #[.pointer (some ⟨g,0,none⟩)] w fun e w'=>e= .returned (.slice (AR A at_ c 1) (bs.length-at_) (c-at_))/\∃q,w'=w.drewN q:=by
 obtain⟨d0,d1,d2⟩:=h.cells;have kc:=fun wx=>Gr (P:=prog) (t:=28) (s:=1) underlying28 (fun _=>by kernel_rfl) A bs.length c .i64 (at_:Int) at_ rfl h.le wx;generalize bs.length=n at *;clear h;go_enter func240,ntmps240;exact a1u
theorem BK{s:Nat}{e:TypeId}{v:Value}{p:Addr}(h:w.ownsRow base e s v n xs)(hr:v.ownBlock≠some p.block)(u:Value):(w.setCell p u).ownsRow base e s v n xs:=
 eZ h fun b hb=>AW w p u b (fun e=>hr (hb.trans (Aw some e)))
def Bh(g:Nat)(w:World)(x:Nat):Prop:=x<w.heap.size/\x≠g
theorem a1x{p:Prop}(h:p:=by go_wp2_with fail;refine D.out.mono ?_;rintro e w1 ⟨rfl,rfl⟩;go_wp2_with fail;go_ret;exact⟨rfl,rfl⟩):p:=h
theorem NL(w:World)(g base:Nat)(bs:List Nat)(A:Option Addr)(c at_:Nat)(er:Int)(h:Cur w g base bs A c at_ er)(he:er≠0)(u:Value):
 Calls prog 188 #[.pointer (some ⟨g,0,none⟩),u] w fun e w'=>e= .returned (.bool false)/\w'=w:=by
 have D:=hid (Dn w g base bs A c at_ er h);have g1:(er != 0)=true:=sJ
 clear h he;go_enter func188,ntmps188;exact a1x
theorem MY(w:World)(g base:Nat)(bs:List Nat)(A:Option Addr)(c at_:Nat)(h:Cur w g base bs A c at_ 0)(j:bs.length<=100000)(K:Nat)(i:Array Value)(R:Nat->Int->World->Prop)
 (hK:∀args wx,(callFunc K args).run prog wx= .ok (.enter K args) wx)
 (hs:∀q,Calls prog K (#[.slice (AR A at_ c 1) (bs.length-at_) (c-at_)]++i) (w.drewN q) fun e w'=>∃ (k:Nat) (e2:Int),e= .returned (.tuple #[.int .i64 k,e2])/\k<=100000/\Cur w' g base bs A c at_ 0/\R k e2 w'):
 Calls prog 188 #[.pointer (some ⟨g,0,none⟩), .func (.func K) #[] i] w fun e w'=>∃ (k:Nat) (e2:Int) (w2:World),R k e2 w2/\Cur w2 g base bs A c at_ 0/\
  ((e2≠0/\e= .returned (.bool false)/\w'=w2.setCell ⟨g,2,none⟩ (.int .i64 e2))∨(e2=0/\e= .returned (.bool true)/\w'=w2.setCell ⟨g,1,none⟩ (.int .i64 (at_+k:Nat)))):=by
 have D:=hid (Dn w g base bs A c at_ 0 h);have D2:=hid (Ab9 w g base bs A c at_ 0 h);have y:=h.le;have HS:=hid hs;clear h hs;go_enter func188,ntmps188;go_wp2_with fail;refine D.out.mono ?_;rintro e w1 ⟨rfl,rfl⟩;go_wp2_with fail;refine D2.out.mono ?_;rintro e w2 ⟨rfl,q,rfl⟩;go_wp2_with fail;refine(HS.out q).mono ?_;rintro e w3 ⟨k,e2,rfl,hk,hc,hR⟩;obtain⟨d0,d1,d2⟩:=hc.cells;have f1:=hc.blk.frozen 1;have f2:=hc.blk.frozen 2;have HC:=hid hc;have HR:=hid hR;clear hc hR D D2 HS;by_cases he:e2=0
 ·subst he;have s1:IntKind.i64.wrap ((at_:Int)+(k:Int))=((at_+k:Nat):Int):=by rw[Ar _ nj];omega
  go_wp2_with fail;go_ret;exact⟨k,0,w3,HR.out,HC.out, .inr ⟨rfl,rfl,rX⟩⟩
 ·have g1:(e2 != 0)=true:=by simpa using he
  have HE:=hid he;clear he;go_wp2_with fail;go_ret;exact⟨k,e2,w3,HR.out,HC.out, .inl ⟨HE.out,rfl,rfl⟩⟩
def Bj(bs:List Nat)(at_:Nat)(er:Int)(n:Nat):List Nat:=if er≠0 then []else if bs.length-at_<n then []else(bs.drop at_).take n
def takeA(bs:List Nat)(at_:Nat)(er:Int)(n:Nat):Nat:=if er≠0 then at_ else if bs.length-at_<n then at_ else at_+n
def Bq(bs:List Nat)(at_:Nat)(er:Int)(n:Nat):Int:=if er≠0 then er else if bs.length-at_<n then 1 else 0
def JR(w:World)(g base:Nat)(bs:List Nat)(A:Option Addr)(c at_:Nat)(er:Int)(n:Nat)(e:Ending)(w':World):Prop:=
 ∃v,e= .returned v/\w'.ownsRow w 5 1 v (Bj bs at_ er n).length (dZ .u8 (Bj bs at_ er n))/\Cur w' g base bs A c (takeA bs at_ er n) (Bq bs at_ er n)/\Kept (Bh g w) w w'
def LC(w:World)(g ob:Nat)(bs:List Nat)(at_ n:Nat)(k:Nat)(e2:Int)(w':World):Prop:=
 Kept (fun x=>x<w.heap.size/\x≠g/\x≠ob) w w'/\(k:Int)=(if bs.length-at_<n then 0 else n)/\e2=(if bs.length-at_<n then 1 else 0)/\
  ∃v,Blk w' ob 28 #[v]/\w'.ownsRow w 5 1 v (Bj bs at_ 0 n).length (dZ .u8 (Bj bs at_ 0 n))
theorem Xl(w:World)(g base nb ob:Nat)(bs:List Nat)(A:Option Addr)(c at_ n:Nat)(ag:bs.length<=100000)(hn:n<=1000000000)(h:Cur w g base bs A c at_ 0)(M:Blk w nb 3 #[n])(y:Blk w ob 28 #[()]):
 Calls prog 239 #[.slice (AR A at_ c 1) (bs.length-at_) (c-at_), .pointer (some ⟨nb,0,none⟩), .pointer (some ⟨ob,0,none⟩)] w fun e w'=>∃ (k:Nat) (e2:Int),e= .returned (.tuple #[.int .i64 k,e2])/\k<=100000/\Cur w' g base bs A c at_ 0/\LC w g ob bs at_ n k e2 w':=by
 have d0:=M.ia 0;have d1:=y.ia 0;have f1:=y.frozen 0;have E:=Et h.own;have Y:=h.le;have J:=ET (Ab5 h.own) Y E.2;have i:=Yc h.own;have aa:=Blk.apart y h.blk ip;unfold LC;rw[show Bj bs at_ 0 n=if bs.length-at_<n then []else(bs.drop at_).take n from Aa rX];by_cases j:bs.length-at_<n
 ·rw[Ab j,Ab j,Ab j];have g0:=ig ((n:Int)<0)
  have g1:=ic (((bs.length-at_:Nat):Int)<(n:Int))
  have g2:=ic (bs.length-at_<n)
  have H:=hid h;have HO:=hid y;clear J i E j h M y;go_enter func239,ntmps239;go_wp2_with fail;go_ret2;exact⟨0,1,rfl,nj,H.out,Kept.refl _ _,rfl,rfl,_,HO.out,AI _ _ _ _⟩
 ·rw[Aa j,Aa j,Aa j];have g0:=ig ((n:Int)<0)
  have g1:=ig (((bs.length-at_:Nat):Int)<(n:Int))
  have g2:=ig (bs.length-at_<n)
  have hcut:∀a,AR A at_ c 1=some a->a.add 0=a:=by
   intro a ha;unfold AR at ha;split at ha
   ·exact i a ha
   ·cases A with
    |none=>cases ha
    |some a0=>
     have h0:=i a0 rfl;injection ha with ha;subst ha;rcases h.own.2 with ⟨hv,_⟩|⟨gg,ah,cur,hv,_⟩
     ·cases hv
     ·injection hv with e1 e2 e3;injection e1 with e1;subst e1;show Addr.add (Addr.add ⟨gg,0,none⟩ (at_*1)) 0=Addr.add ⟨gg,0,none⟩ (at_*1);rw[Gj,Gj,Bt]
  have ks:=fun wx=>EG (P:=prog) (t:=28) (s:=1) underlying28 (fun _=>by kernel_rfl) (AR A at_ c 1) (bs.length-at_) (c-at_) .i64 (n:Int) n rfl (by have:=E.2;omega) hcut wx
  have L:AR A at_ c 1=none->n=0/\c-at_=0:=by
   intro ha
   have hA:A=none:=by
    unfold AR at ha;split at ha
    ·exact ha
    ·cases A with
     |none=>rfl
     |some a=>cases ha
   have:=E.1 hA;omega
  have Q:((bs.drop at_).take n).length=n:=oi
  have D:=hid (IS w (AR A at_ c 1) n (c-at_) ((bs.drop at_).take n) Q nj L (Fj J nj));have H:=hid h;have HO:=hid y;generalize ac:(bs.drop at_).take n=ls at *;have ab:=hid Q;generalize AR A at_ c 1=A1 at *;have ae:n<=100000:=nj
  clear J i E j h M y hcut L ac Q;go_enter func239,ntmps239;go_wp2_with fail;refine D.out.mono ?_;rintro e w1 ⟨v,rfl,G,hb⟩;obtain⟨A2,c2,rfl⟩:=bZ G;have z:=HO.out.step hb;have h1:=H.out.step hb;have hz:=hb.size;have k1:=z.ia 0;have k2:=z.frozen 0;have af:=HO.out.lt;have k0:w1.cell? ⟨nb,0,none⟩=some (.int .i64 n):=(hb.cell (p:=⟨nb,0,none⟩) (World.block_lt_of_cell? _ _ d0)).trans d0;have Z:nb≠ob:=by intro e;subst e;rw[d0]at d1;cases d1
  have k3:(w1.setCell ⟨ob,0,none⟩ (.slice A2 n c2)).cell? ⟨nb,0,none⟩=some (.int .i64 n):=by rw[World.cell?_setCell_other _ _ _ _ (by intro e;injection e with e _;exact Z e.symm)];exact k0
  have H1:=hid h1;have N:=hid z;have U:=hid G;have HB:=hid hb;clear h1 z G hb D HO H d0 d1 f1;go_wp2_with fail;go_ret2;refine⟨n,0,rfl,ae,?_,?_,rfl,rfl,_,N.out.set 0 _,?_⟩
  ·exact⟨H1.out.blk.far (fun e=>aa e.symm) _,BK H1.out.own (gZ H1.out.own N.out ip) _,Y,H1.out.lo⟩
  ·exact(Kept.of_below HB.out (fun x hx=>hx.1)).set (fun h=>h.2.2 rfl) _
  ·rw[ab.out];exact BK U.out (gZ U.out N.out ip) _
theorem Ie(bs:List Nat)(at_ n:Nat):Bj bs at_ 0 n=if bs.length-at_<n then []else(bs.drop at_).take n:=Aa rX
theorem IU(bs:List Nat)(at_ n:Nat):takeA bs at_ 0 n=if bs.length-at_<n then at_ else at_+n:=Aa rX
theorem IQ(bs:List Nat)(at_ n:Nat):Bq bs at_ 0 n=if bs.length-at_<n then 1 else 0:=Aa rX
theorem WV(bs:List Nat)(at_:Nat)(er:Int)(n:Nat):(Bj bs at_ er n).length<=n:=by
 unfold Bj;split
 ·simp
 ·split
  ·simp
  ·rw[AY];omega
theorem Il(bs:List Nat)(at_:Nat)(er:Int)(n:Nat)(h:at_<=bs.length):takeA bs at_ er n<=bs.length:=by
 unfold takeA;split
 ·exact h
 ·split
  ·exact h
  ·omega
theorem a3o{p:Prop}(h:p:=by clear hB z i E j D M HK U;go_wp2_with fail;go_ret;exact⟨_,rfl,HO.out,HC.out,Z.out⟩):p:=h
theorem JA(w:World)(g base:Nat)(bs:List Nat)(A:Option Addr)(c at_:Nat)(er:Int)(n:Nat)(aa:bs.length<=100000)(hn:n<=1000000000)(h:Cur w g base bs A c at_ er):
 Calls prog 187 #[.pointer (some ⟨g,0,none⟩),n] w (JR w g base bs A c at_ er n):=by
 have ah:=h.blk.lt;have h2:Cur ((w.alloc (.cells #[n] 3)).alloc (.cells #[()] 28)) g base bs A c at_ er:=(h.step (aZ (Ae _ _))).step (aZ (Ae _ _));have L:Blk ((w.alloc (.cells #[n] 3)).alloc (.cells #[()] 28)) w 3 #[n]:=(Blk.made _ _ _).alloc _;have J:Blk ((w.alloc (.cells #[n] 3)).alloc (.cells #[()] 28)) (w.heap.size+1) 28 #[()]:=Blk.made_at _ _ _ rX;have Q:Kept (fun x=>x<w.heap.size/\x≠g) w ((w.alloc (.cells #[n] 3)).alloc (.cells #[()] 28)):=Kept.of_below (by(repeat (with_reducible first|exact Ae _ _|assumption|refine Am ?_ |refine below_drewN ?_ _|refine mZ ?_ |refine aZ ?_ |refine cZ im ?_ |refine belA ?_ |refine nZ im ?_)):Below w w _) (fun x hx=>hx.1);have ae:((w.alloc (.cells #[n] 3)).alloc (.cells #[()] 28)).heap.size=w.heap.size+2:=rX
 have af:=h.le;unfold JR;by_cases he:er=0
 ·subst he;have ab:∀N wx,(callFunc 239 N).run prog wx= .ok (.enter 239 N) wx:=by intro N wx;simp[callFunc,go_sem,func239];rfl
  have D:=fun w2 (hc2:Cur w2 g base bs A c at_ 0) (L:Blk w2 w 3 #[n]) (J:Blk w2 (w.heap.size+1) 28 #[()])=>MY w2 g base bs A c at_ hc2 aa 239 #[.pointer (some ⟨w,0,none⟩), .pointer (some ⟨w.heap.size+1,0,none⟩)] (fun k e2 w'=>LC w2 g (w.heap.size+1) bs at_ n k e2 w') ab
   (fun q=>(Xl (w2.drewN q) g base w (w.heap.size+1) bs A c at_ n aa hn (hc2.drewN q) (L.drewN q) (J.drewN q)).mono fun e w' ⟨k,e2,h1,h2,h3,h4⟩=>⟨k,e2,h1,h2,h3,⟨⟨h4.1.os,h4.1.tape,h4.1.output,h4.1.size,h4.1.block⟩,h4.2⟩⟩)
  have D:=hid (D _ h2 L J);have HK:=hid Q;clear ab h2 L J Q;have ac:w.heap.size+1≠g:=nj
  by_cases y:bs.length-at_<n
  ·have eO:Bj bs at_ 0 n= []:=(Ie _ _ _).trans (Ab y);have eA:takeA bs at_ 0 n=at_:=(IU _ _ _).trans (Ab y);have eE:Bq bs at_ 0 n=1:=(IQ _ _ _).trans (Ab y);unfold LC at D;rw[eO,Ab y,Ab y]at D;rw[eO,eA,eE];clear eO eA eE y;go_enter func187,ntmps187;go_wp2_with fail;refine D.out.mono ?_;rintro e w4 ⟨k,e2,w3,⟨j,U,Y,v,z,i⟩,E,G⟩;have M:Hid (Kept (fun x=>x<w.heap.size/\x≠g) w w3):=HK.out.trans ⟨j.os,j.tape,j.output,j.size,fun x hx=>j.block x ⟨nj,hx.2,nj⟩⟩;obtain⟨va,vc,rfl⟩:=bZ i;subst Y;rcases G with ⟨_,rfl,rfl⟩|⟨h0,_,_⟩
   ·have hB:=z.far (fun e=>ac e) (p:=⟨g,2,none⟩) (.int .i64 1);have d0:=hB.ia 0;have HC:=hid (E.setErr 1);have HO:=hid (kZ (BK (p:=⟨g,2,none⟩) i (gZ i E.blk ip) (.int .i64 1)) (show w.heap.size<=_ by omega));have Z:Hid (Kept (fun x=>x<w.heap.size/\x≠g) w (w3.setCell ⟨g,2,none⟩ (.int .i64 1))):=M.out.set (fun h=>h.2 rfl) _;generalize w3.setCell ⟨g,2,none⟩ (.int .i64 1)=w5 at *;exact a3o
   ·cases h0
  ·have ag:n<=bs.length-at_:=nj;have eO:Bj bs at_ 0 n=(bs.drop at_).take n:=(Ie _ _ _).trans (Aa y);have eA:takeA bs at_ 0 n=at_+n:=(IU _ _ _).trans (Aa y);have eE:Bq bs at_ 0 n=0:=(IQ _ _ _).trans (Aa y);unfold LC at D;rw[eO,Aa y,Aa y]at D;rw[eO,eA,eE];clear eO eA eE y;generalize (bs.drop at_).take n=ls at *;go_enter func187,ntmps187;go_wp2_with fail;refine D.out.mono ?_;rintro e w4 ⟨k,e2,w3,⟨j,U,Y,v,z,i⟩,E,G⟩;have M:Hid (Kept (fun x=>x<w.heap.size/\x≠g) w w3):=HK.out.trans ⟨j.os,j.tape,j.output,j.size,fun x hx=>j.block x ⟨nj,hx.2,nj⟩⟩;obtain⟨va,vc,rfl⟩:=bZ i;subst Y;rcases G with ⟨h0,_,_⟩|⟨_,rfl,rfl⟩
   ·exact absurd rfl h0
   ·obtain rfl:k=n:=by omega
    have hB:=z.far (fun e=>ac e) (p:=⟨g,1,none⟩) (.int .i64 (at_+k:Nat));have d0:=hB.ia 0;have HC:=hid (E.setAt (at_+k) nj);have HO:=hid (kZ (BK (p:=⟨g,1,none⟩) i (gZ i E.blk ip) (.int .i64 (at_+k:Nat))) (show w.heap.size<=_ by omega));have Z:Hid (Kept (fun x=>x<w.heap.size/\x≠g) w (w3.setCell ⟨g,1,none⟩ (.int .i64 (at_+k:Nat)))):=M.out.set (fun h=>h.2 rfl) _;generalize w3.setCell ⟨g,1,none⟩ (.int .i64 (at_+k:Nat))=w5 at *;exact a3o
 ·have D:=hid (NL _ g base bs A c at_ er h2 he (.func (.func 239) #[] #[.pointer (some ⟨w,0,none⟩), .pointer (some ⟨w.heap.size+1,0,none⟩)]));have eO:Bj bs at_ er n= []:=Ab he;have eA:takeA bs at_ er n=at_:=Ab he;have eE:Bq bs at_ er n=er:=Ab he;rw[eO,eA,eE];have HK:=hid Q;have HC:=hid h2;have d0:=J.ia 0;clear h2 L J Q he eO eA eE;go_enter func187,ntmps187;go_wp2_with fail;refine D.out.mono ?_;rintro e w4 ⟨rfl,rfl⟩;go_wp2_with fail;go_ret;exact⟨_,rfl,AI _ _ _ _,HC.out,HK.out⟩
def Er(bs:List Nat)(at_:Nat)(er:Int):Nat:=if er≠0 then 0 else bs.getD at_ 0
theorem a1m{p:Prop}(h:p:=by go_wp2_with fail;refine D.out.mono ?_;rintro e w1 ⟨v,rfl,i,hc,hk⟩;obtain⟨g2,c2,hv,_⟩:=i.form rX;subst hv;have c0:=i.cellAt 0 rX;simp only[dZ,List.map_cons,List.map_nil]at c0;have HC:=hid hc;have HK:=hid hk;clear i hc hk D;go_wp2_with fail;go_ret;exact⟨rfl,HC.out,HK.out⟩):p:=h
theorem a1s{p:Prop}(h:p:=by go_wp2_with fail;refine D.out.mono ?_;rintro e w1 ⟨v,rfl,i,hc,hk⟩;obtain⟨A2,c2,rfl⟩:=bZ i;have HC:=hid hc;have HK:=hid hk;simp only[List.length_nil]at i;clear i hc hk D;go_wp2_with fail;go_ret;exact⟨rfl,HC.out,HK.out⟩):p:=h
theorem NE(w:World)(g base:Nat)(bs:List Nat)(A:Option Addr)(c at_:Nat)(er:Int)(j:bs.length<=100000)(h:Cur w g base bs A c at_ er):
 Calls prog 219 #[.pointer (some ⟨g,0,none⟩)] w fun e w'=>e= .returned (.int .u8 (Er bs at_ er:Nat))/\Cur w' g base bs A c (takeA bs at_ er 1) (Bq bs at_ er 1)/\Kept (Bh g w) w w':=by
 have D:=JA w g base bs A c at_ er 1 j nj h;unfold JR at D;by_cases hc:er=0/\at_<bs.length
 ·have hO:Bj bs at_ er 1= [bs.getD at_ 0]:=by rw[hc.1,Ie,Aa nj,Dl hc.2,Aq,Az hc.2];rfl
  have hV:Er bs at_ er=bs.getD at_ 0:=Aa (by simp[hc.1]);rw[hO]at D;rw[hV];have D:=hid D;clear hO hV hc h;generalize bs.getD at_ 0=x at *;go_enter func219,ntmps219;exact a1m
 ·have hO:Bj bs at_ er 1= []:=by
   by_cases he:er=0
   ·rw[he,Ie,Ab nj]
   ·exact Ab he
  have hV:Er bs at_ er=0:=by
   unfold Er;split
   ·rfl
   ·rw[Aq,FN nj];rfl
  rw[hO]at D;rw[hV];have D:=hid D;clear hO hV hc h;go_enter func219,ntmps219;exact a1s
def AV(most:Nat)(bs:List Nat)(at_:Nat)(er:Int):Nat:=if er≠0 then 0 else(BE most (bs.drop at_)).1
def uZ(most:Nat)(bs:List Nat)(at_:Nat)(er:Int):Nat:=if er≠0 then at_ else at_+(BE most (bs.drop at_)).2.1
def wZ(most:Nat)(bs:List Nat)(at_:Nat)(er:Int):Int:=if er≠0 then er else(BE most (bs.drop at_)).2.2
theorem j6(w:World)(g base mb ob:Nat)(bs:List Nat)(A:Option Addr)(c at_ most:Nat)(M:bs.length<=100000)(h8:∀x∈bs,x<=255)(y:most<=1000000000)(h:Cur w g base bs A c at_ 0)(L:Blk w mb 3 #[most])(i:Blk w ob 3 #[ij]):
 Calls prog 189 #[.slice (AR A at_ c 1) (bs.length-at_) (c-at_), .pointer (some ⟨mb,0,none⟩), .pointer (some ⟨ob,0,none⟩)] w fun e w'=>∃ (k:Nat) (e2:Int),e= .returned (.tuple #[.int .i64 k,e2])/\k<=100000/\Cur w' g base bs A c at_ 0/\
  (Kept (fun x=>x≠ob) w w'/\k=(BE most (bs.drop at_)).2.1/\e2=(BE most (bs.drop at_)).2.2/\Blk w' ob 3 #[.int .i64 (BE most (bs.drop at_)).1]):=by
 have d0:=L.ia 0;have f1:=i.frozen 0;have d1:=i.ia 0;have G:=Et h.own;have j:=ET (Ab5 h.own) h.le G.2;have z:∀x∈bs.drop at_,x<=255:=fun x hx=>h8 x (Bz hx);have D:=Ts w (AR A at_ c 1) (bs.length-at_) (c-at_) (bs.drop at_) most y (by rw[AQ]) nj z j;have E:=Hu most (bs.drop at_) z;have hk:(BE most (bs.drop at_)).2.1<=100000:=by have:=E.2.1;rw[AQ]at this;omega
 generalize BE most (bs.drop at_)=R at *;have J:=Blk.apart i h.blk ip;have D:=hid D;have H:=hid h;have HO:=hid i;generalize AR A at_ c 1=A1 at *;clear j z E h i L G;go_enter func189,ntmps189;go_wp2_with fail;refine D.out.mono ?_;rintro e w1 ⟨rfl,rfl⟩;go_wp2_with fail;go_ret2;refine⟨R.2.1,R.2.2,rfl,hk,?_,(Kept.refl _ _).set (fun h=>h rfl) _,rfl,rfl,HO.out.set 0 _⟩;exact⟨H.out.blk.far (fun e=>J e.symm) _,BK H.out.own (gZ H.out.own HO.out ip) _,H.out.le,H.out.lo⟩
theorem a1t{p:Prop}(h:p:=by go_wp2_with fail;refine D.out.mono ?_;rintro e w4 ⟨rfl,rfl⟩;go_wp2_with fail;go_ret;exact⟨rfl,HC.out,HK.out⟩):p:=h
theorem GO(w:World)(g base:Nat)(bs:List Nat)(A:Option Addr)(c at_:Nat)(er:Int)(most:Nat)(ab:bs.length<=100000)(h8:∀x∈bs,x<=255)(Z:most<=1000000000)(h:Cur w g base bs A c at_ er):
 Calls prog 112 #[.pointer (some ⟨g,0,none⟩),most] w fun e w'=>e= .returned (.int .i64 (AV most bs at_ er:Nat))/\Cur w' g base bs A c (uZ most bs at_ er) (wZ most bs at_ er)/\Kept (Bh g w) w w':=by
 have aj:=h.blk.lt;have h2:Cur ((w.alloc (.cells #[most] 3)).alloc (.cells #[ij] 3)) g base bs A c at_ er:=(h.step (aZ (Ae _ _))).step (aZ (Ae _ _));have G:Blk ((w.alloc (.cells #[most] 3)).alloc (.cells #[ij] 3)) w 3 #[most]:=(Blk.made _ _ _).alloc _;have M:Blk ((w.alloc (.cells #[most] 3)).alloc (.cells #[ij] 3)) (w.heap.size+1) 3 #[ij]:=Blk.made_at _ _ _ rX;have Q:Kept (fun x=>x<w.heap.size/\x≠g) w ((w.alloc (.cells #[most] 3)).alloc (.cells #[ij] 3)):=Kept.of_below (by(repeat (with_reducible first|exact Ae _ _|assumption|refine Am ?_ |refine below_drewN ?_ _|refine mZ ?_ |refine aZ ?_ |refine cZ im ?_ |refine belA ?_ |refine nZ im ?_)):Below w w _) (fun x hx=>hx.1);have ai:=h.le;unfold Bh;by_cases he:er=0
 ·subst he;have ac:∀N wx,(callFunc 189 N).run prog wx= .ok (.enter 189 N) wx:=by intro N wx;simp[callFunc,go_sem,func189];rfl
  have D:=fun w2 (hc2:Cur w2 g base bs A c at_ 0) (G:Blk w2 w 3 #[most]) (M:Blk w2 (w.heap.size+1) 3 #[ij])=>MY w2 g base bs A c at_ hc2 ab 189 #[.pointer (some ⟨w,0,none⟩), .pointer (some ⟨w.heap.size+1,0,none⟩)]
   (fun k e2 w'=>Kept (fun x=>x≠w.heap.size+1) w2 w'/\k=(BE most (bs.drop at_)).2.1/\e2=(BE most (bs.drop at_)).2.2/\Blk w' (w.heap.size+1) 3 #[.int .i64 (BE most (bs.drop at_)).1]) ac
   (fun q=>(j6 (w2.drewN q) g base w (w.heap.size+1) bs A c at_ most ab h8 Z (hc2.drewN q) (G.drewN q) (M.drewN q)).mono fun e w' ⟨k,e2,h1,h2,h3,h4⟩=>⟨k,e2,h1,h2,h3,⟨⟨h4.1.os,h4.1.tape,h4.1.output,h4.1.size,h4.1.block⟩,h4.2⟩⟩)
  have D:=hid (D _ h2 G M);have af:∀x∈bs.drop at_,x<=255:=fun x hx=>h8 x (Bz hx);have U:=Hu most (bs.drop at_) af;rw[AQ]at U;have eV:AV most bs at_ 0=(BE most (bs.drop at_)).1:=Aa rX;have eA:uZ most bs at_ 0=at_+(BE most (bs.drop at_)).2.1:=Aa rX;have eE:wZ most bs at_ 0=(BE most (bs.drop at_)).2.2:=Aa rX;rw[eV,eA,eE];generalize BE most (bs.drop at_)=R at *;have HK:=hid Q;have ag:w.heap.size+1≠g:=nj
  have ae:=hid U;clear ac h2 G M Q af U eV eA eE;by_cases hR:R.2.2=0
  ·have ah:at_+R.2.1<=bs.length:=(by have:=ae.out.2.1;omega);go_enter func112,ntmps112;go_wp2_with fail;refine D.out.mono ?_;rintro e w4 ⟨k,e2,w3,⟨i,z,E,y⟩,J,j⟩;rcases j with ⟨h0,_,_⟩|⟨_,rfl,rfl⟩
   ·exact absurd (E.trans hR) h0
   ·have L:Hid (Kept (fun x=>x<w.heap.size/\x≠g) w w3):=HK.out.trans ⟨i.os,i.tape,i.output,i.size,fun x hx=>i.block x nj⟩;have hB:=y.far (fun e=>ag e) (p:=⟨g,1,none⟩) (.int .i64 (at_+k:Nat));have d0:=hB.ia 0;have HC:=hid (J.setAt (at_+k) nj);rw[z]at HC;have aa:Hid (Kept (fun x=>x<w.heap.size/\x≠g) w (w3.setCell ⟨g,1,none⟩ (.int .i64 (at_+k:Nat)))):=L.out.set (fun h=>h.2 rfl) _;rw[<-z]at HC;have Y:Hid (Cur (w3.setCell ⟨g,1,none⟩ (.int .i64 (at_+k:Nat))) g base bs A c (at_+R.2.1) R.2.2):=qu;generalize w3.setCell ⟨g,1,none⟩ (.int .i64 (at_+k:Nat))=w5 at *;clear hB y J i D L HK z E HC hR;go_wp2_with fail;go_ret;exact⟨rfl,Y.out,aa.out⟩
  ·have hz:=ae.out.2.2.2.1 hR;go_enter func112,ntmps112;go_wp2_with fail;refine D.out.mono ?_;rintro e w4 ⟨k,e2,w3,⟨i,z,E,y⟩,J,j⟩;rcases j with ⟨_,rfl,rfl⟩|⟨h0,_,_⟩
   ·have L:Hid (Kept (fun x=>x<w.heap.size/\x≠g) w w3):=HK.out.trans ⟨i.os,i.tape,i.output,i.size,fun x hx=>i.block x nj⟩;have Y:Hid (Cur (w3.setCell ⟨g,2,none⟩ (.int .i64 e2)) g base bs A c (at_+R.2.1) R.2.2):=(by rw[hz.2,<-E];exact J.setErr e2);have aa:Hid (Kept (fun x=>x<w.heap.size/\x≠g) w (w3.setCell ⟨g,2,none⟩ (.int .i64 e2))):=L.out.set (fun h=>h.2 rfl) _;generalize w3.setCell ⟨g,2,none⟩ (.int .i64 e2)=w5 at *;have HZ:=hid hz.1;clear y J i D L HK z E hR hz;go_wp2_with fail;go_ret;exact⟨by rw[HZ.out];rfl,Y.out,aa.out⟩
   ·exact absurd (E.symm.trans h0) hR
 ·have D:=hid (NL _ g base bs A c at_ er h2 he (.func (.func 189) #[] #[.pointer (some ⟨w,0,none⟩), .pointer (some ⟨w.heap.size+1,0,none⟩)]));have eV:AV most bs at_ er=0:=Ab he;have eA:uZ most bs at_ er=at_:=Ab he;have eE:wZ most bs at_ er=er:=Ab he;rw[eV,eA,eE];have HK:=hid Q;have HC:=hid h2;clear h2 G M Q he eV eA eE;go_enter func112,ntmps112;exact a1t
theorem Nv{P:Program}{j:Array Oper}{o:Oper}{a:Act}{K:Act->World->Prop}{Q:Exit->Act->World->Prop}{E:Prop}(y:o.guard=none)(s x:Operand)(t:TypeId)
 (ho:o.op= .call {callee:= .builtin .append,args:=#[s,x],argTypes:=#[t,t] })
 (base:Nat)(e:TypeId)(i:TypeInfo)(z:Value)(size bytes:Nat)(ht:P.underlying t=some (.slice e))(hi:P.info? e=some i)(hz:i.zero=some z)
 (hsize:i.size=size)(hby:i.bytes=bytes)(hzs:z.cells.size=size)(hsz:0<size)
 (v:Value)(n:Nat)(xs:List Value)(hs:a.eval s=v)(hown:w.ownsRow base e size v n xs)
 (A:Option Addr)(m c:Nat)(news:List Value)(hx:a.eval x= .slice A m c)(hsrc:Src w A m c size news)(h1:∀u∈news,u.oneCell'=true)
 (h63:n+m<=maxLen)(hbytes:(n+m)*bytes<=140737488355328)(hbase:base<=w.heap.size)
 (h:∀A' c' w',w'.ownsRow base e size (.slice A' (n+m) c') (n+m) (xs++news)->w.grownBy w' v.ownBlock->K (a.put o.dst (.slice A' (n+m) c')) w'):
 if Region.wanted o (yielded j a.tmps)=true then Oper.wp P o a w K Q else E:=by
 have hw:Region.wanted o (yielded j a.tmps)=true:=by simp[Region.wanted,y]
 rw[Ab hw];obtain⟨v',w',hr,h2,h3,h5⟩:=J3 (P:=P) w base t o.type e i z size bytes ht hi hz hsize hby hzs hsz v n xs hown A m c news hsrc h1 h63 hbytes hbase;obtain⟨A',c',rfl⟩:=bZ h2;unfold Oper.wp execOp;simp only[ho,resolve,invoke,builtin,Sem.run_bind,Sem.run_pure,Result.andThen_ok,List.map_toArray,List.map_cons,List.map_nil,hs,hx,hr];exact h A' c' w' h2 h3
theorem a2i{p:Prop}(h:p:=by
  go_wp2_with fail;go_roundw
  case measure=>exact jq
  case rel=>exact jk):p:=h
theorem a2p{p:Prop}(h:p:=by
  go_wp2_with fail
  go_ret3
  refine⟨?_,rfl⟩;rw[<-J.out];simp):p:=h
theorem jV(w:World)(A:Option Addr)(n c at_:Nat)(ls:List Nat)(hn:ls.length=n)(hN:n<=100000)(am:at_<=n)(h8:∀x∈ls,x<=255)(ha:Row w w A n 1 (jZ .u8 ls)):
 Calls prog 263 #[.slice A n c,at_] w fun e w'=>e= .returned (.tuple #[.int .u64 (A0 (ls.drop at_) 0 0).1, .int .i64 (at_+(A0 (ls.drop at_) 0 0).2.1:Nat), .int .i64 (A0 (ls.drop at_) 0 0).2.2])/\w'=w:=by
 have HA:=hid ha;have HN:=hid hn;have H8:=hid h8;clear ha hn h8;obtain⟨R,hR⟩:=ii (A0 (ls.drop at_) 0 0);rw[<-hR];have HR:=hid hR;clear hR;go_enter func263,ntmps263;go_wp2_with fail;go_loopw [7,8,9] (fun xv mv i wx=>∃k x m:Nat,at_+k<=n/\k<=9/\xv= .int .u64 x/\mv= .int .u64 m/\i= .int .i64 k/\Hid (x<2 ^ (7*k))/\Hid (m=2 ^ (7*k))/\Hid (A0 (ls.drop (at_+k)) k x=R)/\wx=w) (fun _ _ i _=>n-(intOf i).toNat)
 case atStart=>exact⟨0,0,1,nj,nj,rfl,rfl,rfl,by show _<_;simp,rR,HR.out.symm,rfl⟩
 case round=>
  obtain⟨k,x,m,hk,au,rfl,rfl,rfl,hx,hm,hS,rfl⟩:=hrel;have s0:IntKind.i64.wrap ((at_:Int)+(k:Int))=((at_+k:Nat):Int):=pj
  obtain⟨j,hj⟩:=ii (at_+k);rw[<-hj]at s0 hS;by_cases aj:j<n
  ·obtain⟨b,ar,y,rfl,hb,hy,hc⟩:=CO HA.out HN.out aj;have L:j<ls.length:=(by rw[HN.out];exact aj);have an:y<=255:=H8.out y (Bp hy);have hs:=hS.out;rw[Dl L,A0]at hs;rw[Az L]at hy;injection hy with hy;rw[hy]at hs;have y0:(0:Int)<=(j:Int):=nj;have y1:(j:Int)<(n:Int):=nj;have gl:=ig ((n:Int)<=j);have ak:=ig (n<=j);have sy:IntKind.u64.wrap (y:Int)=(y:Int):=pm;by_cases h9:k=9/\y≠1
   ·rw[Ab (.inl h9)]at hs;have g1:((k:Int)==9)=true:=sj;have g2:((y:Int) != 1)=true:=sj;have HS:=hid hs;clear hs hS hx hm h9 hy L hj;go_wp2_with fail
    go_ret3
    exact⟨nu,rfl⟩
   ·by_cases h0:0<k/\y=0
    ·rw[Ab (.inr h0)]at hs;have g1:((k:Int)==9)=false:=qi;have g3:=ic (0<k);have g4:((y:Int)==0)=true:=sj;have HS:=hid hs;clear hs hS hx hm h9 h0 hy L hj;go_wp2_with fail
     go_ret3
     exact⟨nu,rfl⟩
    ·rw[Aa nj]at hs;have Y:=hx.out;obtain⟨E,hE⟩:=ii (7*k);have N:=hm.out;rw[<-hE]at hs Y N;obtain⟨c7,ah⟩:=ii (y % 128);rw[<-ah]at hs;obtain⟨x2,Q⟩:=ii (x+c7*2 ^ E);have ae:2 ^ E<=2 ^ 63:=Cm nj nj;have ai:c7*2 ^ E<=127*2 ^ E:=GB _ (by omega)
     have ac:x+c7*2 ^ E<18446744073709551616:=by
      by_cases z:k=9
      ·have:y=1:=nj;have e7:c7=1:=nj;have al:E=63:=nj;subst al;rw[e7];have:x<2 ^ 63:=Y;omega
      ·have:2 ^ E<=2 ^ 56:=Cm nj nj;omega
     obtain⟨t2,ab⟩:=ii (c7*2 ^ E);have e1:(y:Int) % 128=(c7:Int):=nj
     have s3:IntKind.u64.wrap ((c7:Int)*(m:Int))=(t2:Int):=(by rw[Bi,ab,N];have:((c7:Int)*((2 ^ E:Nat):Int))=((c7*2 ^ E:Nat):Int):=(by push_cast;rfl);rw[this];omega);have s4:IntKind.u64.wrap ((x:Int)+(t2:Int))=(x2:Int):=(by rw[Bi,Q,<-ab];omega);rw[<-Q]at hs;have af:x2<2 ^ (7*(k+1)):=qp;obtain⟨m2,Z⟩:=ii (m*128);have U:m2=2 ^ (7*(k+1)):=(by rw[Z,N,show 7*(k+1)=E+7 by omega,Nat.pow_add]);have aa:=hid U;have H5:k≠9->IntKind.u64.wrap ((m:Int)*128)=(m2:Int):=fun h=>by have:2 ^ E<=2 ^ 56:=Cm nj nj;rw[Bi,Z];omega
     have H5:=hid H5;have HP:=hid af;have HS:=hid hs;have H9:Hid (k=9->y=1):=fun h=>nj
     have HJ:=hid hj;clear hs hS hx Y hy L Q ab ah ae ai ac hE af hm N Z U hj;by_cases G:y<128
     ·have g5:=ic ((y:Int)<128);have g6:=ic (y<128);have hs:=HS.out;rw[Ab G]at hs;have J:Hid ((x2,k+1,(0:Int))=R):=hs;have s5:IntKind.i64.wrap ((j:Int)+1)=((at_+(k+1):Nat):Int):=(by have:=HJ.out;rw[Ar _ nj];omega);clear hs HS G H5 HJ;by_cases z:k=9
      ·have g1:((k:Int)==9)=true:=sj;have g2:((y:Int) != 1)=false:=lp;have g3:=ic (0<k);have g4:((y:Int)==0)=false:=lp;clear z h9 h0;exact a2p
      ·have g1:((k:Int)==9)=false:=qi;by_cases M:k=0
       ·have g3:=ig (0<k);clear z M h9 h0;exact a2p
       ·have g3:=ic (0<k);have g4:((y:Int)==0)=false:=qi;clear z M h9 h0;exact a2p
     ·have g5:=ig ((y:Int)<128);have g6:=ig (y<128);have hs:=HS.out;rw[Aa G]at hs;have J:Hid (A0 (ls.drop (at_+(k+1))) (k+1) x2=R):=(by have h:=hs;rw[show j+1=at_+(k+1) by have:=HJ.out;omega]at h;exact h);have ag:k≠9:=fun h=>by have:=H9.out h;omega
      have s6:=H5.out ag;have s7:IntKind.i64.wrap ((k:Int)+1)=((k+1:Nat):Int):=pj;have aq:at_+(k+1)<=n:=(by have:=HJ.out;omega);clear hs HS G H5 HJ;by_cases z:k=9
      ·have g1:((k:Int)==9)=true:=sj;have g2:((y:Int) != 1)=false:=lp;have g3:=ic (0<k);have g4:((y:Int)==0)=false:=lp;clear z h9 h0;exact a2i
      ·have g1:((k:Int)==9)=false:=qi;by_cases M:k=0
       ·have g3:=ig (0<k);clear z M h9 h0;exact a2i
       ·have g3:=ic (0<k);have g4:((y:Int)==0)=false:=qi;clear z M h9 h0;exact a2i
  ·obtain rfl:j=n:=by omega
   have hs:=hS.out;rw[El py,A0]at hs;have HS:=hid hs;have gl:=ic ((j:Int)<=j);have ak:=ic (j<=j);clear hs hS hx hm hj;go_wp2_with fail
   go_ret3
   exact⟨nu,rfl⟩
structure RCur (w:World) (g base:Nat) (bs:List Nat) (A:Option Addr) (c at_:Nat) (er:Int):Prop where
 blk:Blk w g 207 #[.slice A bs.length c,at_,er]
 own:w.ownsRow base 5 1 (.slice A bs.length c) bs.length (dZ .u8 bs)
 le:at_<=bs.length
 lo:base<=g
section
variable {w w':World} {g base:Nat} {bs:List Nat} {A:Option Addr} {c at_:Nat} {er:Int}
theorem RCur.drewN(h:RCur w g base bs A c at_ er)(q:Nat):RCur (w.drewN q) g base bs A c at_ er:=⟨h.blk,h.own,h.le,h.lo⟩
theorem RCur.step(h:RCur w g base bs A c at_ er)(hb:Below w w w'):RCur w' g base bs A c at_ er:=
 ⟨h.blk.step hb,eZ h.own (fun x hx=>hb.block x (Aj h.own x hx).2),h.le,h.lo⟩
theorem RCur.cells(h:RCur w g base bs A c at_ er):w.cell? ⟨g,0,none⟩=some (.slice A bs.length c)/\w.cell? ⟨g,1,none⟩=some (.int .i64 at_)/\w.cell? ⟨g,2,none⟩=some (.int .i64 er):=⟨h.blk.cell 0,h.blk.cell 1,h.blk.cell 2⟩
theorem RCur.setErr(h:RCur w g base bs A c at_ er)(e2:Int):RCur (w.setCell ⟨g,2,none⟩ (.int .i64 e2)) g base bs A c at_ e2:=
 ⟨h.blk.set 2 _,eZ h.own (fun x hx=>AW w _ _ x (fun e=>gZ h.own h.blk ip (hx.trans (Aw some e)))),h.le,h.lo⟩
theorem RCur.setAt(h:RCur w g base bs A c at_ er)(i:Nat)(h2:i<=bs.length):RCur (w.setCell ⟨g,1,none⟩ (.int .i64 i)) g base bs A c i er:=
 ⟨h.blk.set 1 _,eZ h.own (fun x hx=>AW w _ _ x (fun e=>gZ h.own h.blk ip (hx.trans (Aw some e)))),h2,h.lo⟩
theorem RCur.row(h:RCur w g base bs A c at_ er):Row w w A bs.length 1 (jZ .u8 bs):=Ab5 h.own
end
theorem OO(hb:base<=w.heap.size):(w.alloc (.cells #[] 5)).ownsRow base 5 1 (.slice (some ⟨w,0,none⟩) 0 0) 0 []:=
 ⟨rfl, .inr ⟨w.heap.size,0,#[],rfl,hb,heap_alloc_new w _,Ak _,sS,rfl,rfl⟩⟩
theorem XR(w:World)(A:Option Addr)(n c:Nat)(ls:List Nat)(hn:ls.length=n)(Z:n<=100000)(z:A=none->n=0/\c=0)(ha:Row w w A n 1 (jZ .u8 ls)):
 Calls prog 148 #[.slice A n c] w fun e w'=>∃g B d,e= .returned (.pointer (some ⟨g,0,none⟩))/\RCur w' g w ls B d 0 0/\Below w w w':=by
 obtain⟨j0,M,U,Q,Y⟩:=info_parts Dh;have j:Hid (Below w w (w.alloc (.cells #[] 5))):=aZ (Ae _ _);have HS:=hid (Jz ((ha.below j.out).mono j.out.size) hn z);have HO:=hid (OO (w:=w) (Ak _));have HN:=hid hn;have J:=j.out.size;clear hn z ha;go_enter func148,ntmps148;go_wp2_with(at_builtin;refine iZ rfl (.tmp 3) (.tmp 4) 28 rfl w 5 j0 _ 1 1 underlying28 M U Q Y rfl ip _ _ _ nm HO.out _ _ _ _ nm HS.out (Ce _ _) sS nj J ?_;intro v4 w4 i L E;have G:Hid (Below w w w4):=j.out.grown L J (fun y hy=>(Aj HO.out y hy).1);obtain⟨B,d,rfl⟩:=bZ i;have N:Hid (w4.ownsRow w 5 1 (.slice B (0+n) d) (0+n) (dZ .u8 ls)):=i;clear i L E);have hz:=G.out.size;go_ret;refine⟨w4.heap.size,B,d,rfl,⟨?_,?_,Bf _,hz⟩,pZ hz G.out⟩
 ·rw[HN.out,<-Ca n];exact Blk.made _ _ _
 ·have h:=N.out.alloc (.cells #[.slice B (0+n) d,ij,ij] 207);rw[HN.out];rw[Ca]at h;exact h
theorem jA(w:World)(g base:Nat)(bs:List Nat)(A:Option Addr)(c at_:Nat)(er:Int)(j:bs.length<=100000)(h:RCur w g base bs A c at_ er):
 Calls prog 155 #[.pointer (some ⟨g,0,none⟩)] w fun e w'=>e= .returned (.int .i64 (bs.length-at_:Nat))/\∃q,w'=w.drewN q:=by
 obtain⟨d0,d1,d2⟩:=h.cells;have i:=h.le;have s1:IntKind.i64.wrap ((bs.length:Int)-(at_:Int))=((bs.length-at_:Nat):Int):=pj
 generalize bs.length-at_=m at *;generalize bs.length=n at *;clear h i;go_enter func155,ntmps155;exact a1u
theorem SH(w:World)(g base:Nat)(bs:List Nat)(A:Option Addr)(c at_:Nat)(er e2:Int)(h:RCur w g base bs A c at_ er):
 Calls prog 151 #[.pointer (some ⟨g,0,none⟩),e2] w fun e w'=>e= .returned (.tuple #[])/\RCur w' g base bs A c at_ (ES er e2)/\Kept (fun x=>x≠g) w w':=by
 obtain⟨d0,d1,d2⟩:=h.cells;have f2:=h.blk.frozen 2;have H:=hid h;clear h;unfold ES;by_cases he:er=0
 ·subst he;rw[Ab rfl];go_enter func151,ntmps151;exact a2x
 ·rw[Aa he];have g1:(er==0)=false:=by simpa using he
  clear he;go_enter func151,ntmps151;exact a3l
def OJ(w:World)(g base:Nat)(bs:List Nat)(A:Option Addr)(c at_:Nat)(er:Int)(n:Nat)(e:Ending)(w':World):Prop:=
 ∃v,e= .returned v/\w'.ownsRow w 5 1 v (Bj bs at_ er n).length (dZ .u8 (Bj bs at_ er n))/\RCur w' g base bs A c (takeA bs at_ er n) (Bq bs at_ er n)/\Kept (Bh g w) w w'
theorem jM{B k m:Nat}{bs:List Nat}(h:Row w B A n 1 (jZ .u8 bs))(hn:bs.length=n)(hk:k+m<=n)(hc:n<=c)(y:A=none->n=0/\c=0):Src w (AR A k c 1) m (c-k) 1 (dZ .u8 ((bs.drop k).take m)):=by
 have hr:Row w B (AR A k c 1) m 1 (jZ .u8 ((bs.drop k).take m)):=h.cut k m hk hc (fun i j hi hj=>by
  obtain rfl:j=0:=nj
  simp only[jZ,List.getD_eq_getElem?_getD,List.getElem?_take,List.getElem?_drop];rw[Ab hi])
 refine Jz hr oi (fun e=> ?_)
 have hA:A=none:=by
  unfold AR at e;split at e
  ·exact e
  ·cases A with
   |none=>rfl
   |some a=>cases e
 have:=y hA;omega
theorem OG(w:World)(g base:Nat)(bs:List Nat)(A:Option Addr)(c at_:Nat)(er:Int)(n:Nat)(aa:bs.length<=100000)(hn:n<=1000000000)(h:RCur w g base bs A c at_ er):
 Calls prog 153 #[.pointer (some ⟨g,0,none⟩),n] w (OJ w g base bs A c at_ er n):=by
 obtain⟨j0,aj,ai,ah,ag⟩:=info_parts Dh;obtain⟨d0,d1,d2⟩:=h.cells;have f1:=h.blk.frozen 1;have f2:=h.blk.frozen 2;have af:=h.le;have al:=h.blk.lt;have H:=hid h;have g0:=ig ((n:Int)<0)
 unfold OJ;by_cases he:er=0
 ·subst he;have D:=hid (jA w g base bs A c at_ 0 aa h);by_cases i:bs.length-at_<n
  ·have eO:Bj bs at_ 0 n= []:=(Ie _ _ _).trans (Ab i);have eA:takeA bs at_ 0 n=at_:=(IU _ _ _).trans (Ab i);have eE:Bq bs at_ 0 n=1:=(IQ _ _ _).trans (Ab i);rw[eO,eA,eE];have g1:=ic (((bs.length-at_:Nat):Int)<(n:Int));have ak:=ic (bs.length-at_<n);generalize bs.length-at_=m at *;clear eO eA eE h i;go_enter func153,ntmps153;go_wp2_with fail;refine D.out.mono ?_;rintro e w1 ⟨rfl,q,rfl⟩;have H1:Hid (RCur (w.drewN q) g base bs A c at_ 0):=H.out.drewN q;clear D;go_wp2_with fail;go_ret;exact⟨_,rfl,AI _ _ _ _,H1.out.setErr 1,(Kept.of_below (B:=w.heap.size) sT (fun x hx=>hx.1)).set (fun h=>h.2 rfl) _⟩
  ·have eO:Bj bs at_ 0 n=(bs.drop at_).take n:=(Ie _ _ _).trans (Aa i);have eA:takeA bs at_ 0 n=at_+n:=(IU _ _ _).trans (Aa i);have eE:Bq bs at_ 0 n=0:=(IQ _ _ _).trans (Aa i);rw[eO,eA,eE];have g1:=ig (((bs.length-at_:Nat):Int)<(n:Int));have ak:=ig (bs.length-at_<n);have hl:at_+n<=bs.length:=nj;have j:=Et h.own;have an:=j.2;have aq:A=none->c=0:=fun e=>(j.1 e).2;have U:Hid (∀wx,Below w w wx->Src wx (AR A at_ c 1) n (c-at_) 1 (dZ .u8 ((bs.drop at_).take n))):=fun wx hb=>jM (h.row.below hb) rfl hl j.2 j.1;have ks:=fun wx=>Oo (P:=prog) (t:=28) (s:=1) underlying28 (fun _=>by kernel_rfl) A bs.length c .i64 .i64 (at_:Int) ((at_+n:Nat):Int) at_ (at_+n) rfl rfl nj nj wx;rw[I5]at ks;have Z:((bs.drop at_).take n).length=n:=oi;have s1:IntKind.i64.wrap ((at_:Int)+(n:Int))=((at_+n:Nat):Int):=pj;rw[Z];generalize (bs.drop at_).take n=L at *;generalize bs.length-at_=m at *;obtain⟨k,hk⟩:=ii (at_+n);have am:=hid hk;rw[<-hk]at ks s1 hl ⊢;generalize AR A at_ c 1=AC at *;generalize c-at_=cc at *;obtain⟨N,hN⟩:=ii bs.length;rw[<-hN]at d0 ks aa hl af;have J:=hid hN;clear eO eA eE h i j Z hk hN;go_enter func153,ntmps153;go_wp2_with fail;refine D.out.mono ?_;rintro e w1 ⟨rfl,q,rfl⟩;have H1:Hid (RCur (w.drewN q) g base bs A c at_ 0):=H.out.drewN q;clear D;go_upto_region 9 with fail;have E:=hid (show Below w w ((w.drewN (q+1)).alloc (.cells #[] 5)) by(repeat (with_reducible first|exact Ae _ _|assumption|refine Am ?_ |refine below_drewN ?_ _|refine mZ ?_ |refine aZ ?_ |refine cZ im ?_ |refine belA ?_ |refine nZ im ?_)));have HO:=hid (OO (w:=w.drewN (q+1)) (base:=w.heap.size) (Ak _));have HS:=hid (U.out _ E.out);have Q:=E.out.size;have M:=hid (H.out.step E.out);have z0:((w.drewN (q+1)).alloc (.cells #[] 5)).cell? ⟨g,0,none⟩=some (.slice A N c):=(by rw[J.out];exact M.out.cells.1);have z1:((w.drewN (q+1)).alloc (.cells #[] 5)).cell? ⟨g,1,none⟩=some (.int .i64 at_):=M.out.cells.2.1;clear U
   go_region_held3 (fun wx=>wx.cell? ⟨g,0,none⟩=some (.slice A N c)/\wx.cell? ⟨g,1,none⟩=some (.int .i64 at_)) (first|exact⟨d0,d1⟩|exact⟨z0,z1⟩|exact⟨y0,y1⟩)
    ((refine Nv rfl (.tmp 23) (.tmp 38) 28 rfl w 5 j0 _ 1 1 underlying28 aj ai ah ag rfl ip _ _ _ nm HO.out _ _ _ _ nm HS.out (Ce _ _) sS nj Q ?_;intro A5 c5 w5 z ab;have G:Below w w w5:=E.out.grown ab Q (fun y hy=>(Aj HO.out y hy).1);have H5:=H.out.step G;have y0:w5.cell? ⟨g,0,none⟩=some (.slice A N c):=by{rw[J.out];exact H5.cells.1};have y1:w5.cell? ⟨g,1,none⟩=some (.int .i64 at_):=H5.cells.2.1;have yf:=H5.blk.frozen 1))
   have ae:=hid G;have Y:=hid H5;have ac:Hid (w5.ownsRow w 5 1 (.slice A5 (0+n) c5) (0+n) (dZ .u8 L)):=z;clear z ab G H5 HO HS E M z0 z1 d0 d1 d2 f1 f2;go_wp2_with fail;go_ret;refine⟨_,rfl,?_,Y.out.setAt k (by rw[<-J.out];exact hl),(Kept.of_below (B:=w.heap.size) ae.out (fun x hx=>hx.1)).set (fun h=>h.2 rfl) _⟩;have h:=BK (p:=⟨g,1,none⟩) ac.out (gZ ac.out Y.out.blk ip) (.int .i64 (k:Nat));rw[Ca]at h;exact h
 ·have g1:(er != 0)=true:=by simpa using he
  have eO:Bj bs at_ er n= []:=Ab he;have eA:takeA bs at_ er n=at_:=Ab he;have eE:Bq bs at_ er n=er:=Ab he;rw[eO,eA,eE];clear eO eA eE h he;go_enter func153,ntmps153;go_wp2_with fail;go_ret;exact⟨_,rfl,AI _ _ _ _,H.out,Kept.refl _ _⟩
theorem iI(w:World)(g base:Nat)(bs:List Nat)(A:Option Addr)(c at_:Nat)(er:Int)(j:bs.length<=100000)(h:RCur w g base bs A c at_ er):
 Calls prog 150 #[.pointer (some ⟨g,0,none⟩)] w fun e w'=>e= .returned (.int .u8 (Er bs at_ er:Nat))/\RCur w' g base bs A c (takeA bs at_ er 1) (Bq bs at_ er 1)/\Kept (Bh g w) w w':=by
 have D:=OG w g base bs A c at_ er 1 j nj h;unfold OJ at D;by_cases hc:er=0/\at_<bs.length
 ·have hO:Bj bs at_ er 1= [bs.getD at_ 0]:=by rw[hc.1,Ie,Aa nj,Dl hc.2,Aq,Az hc.2];rfl
  have hV:Er bs at_ er=bs.getD at_ 0:=Aa (by simp[hc.1]);rw[hO]at D;rw[hV];have D:=hid D;clear hO hV hc h;generalize bs.getD at_ 0=x at *;go_enter func150,ntmps150;exact a1m
 ·have hO:Bj bs at_ er 1= []:=by
   by_cases he:er=0
   ·rw[he,Ie,Ab nj]
   ·exact Ab he
  have hV:Er bs at_ er=0:=by
   unfold Er;split
   ·rfl
   ·rw[Aq,FN nj];rfl
  rw[hO]at D;rw[hV];have D:=hid D;clear hO hV hc h;go_enter func150,ntmps150;exact a1s
def Dw(bs:List Nat)(at_:Nat)(er:Int):Nat:=if er≠0 then 0 else(A0 (bs.drop at_) 0 0).1
def Ep(bs:List Nat)(at_:Nat)(er:Int):Nat:=if er≠0 then at_ else at_+(A0 (bs.drop at_) 0 0).2.1
def Ex(bs:List Nat)(at_:Nat)(er:Int):Int:=if er≠0 then er else(A0 (bs.drop at_) 0 0).2.2
theorem iT{bs:List Nat}(h8:∀x∈bs,x<=255){at_:Nat}(er:Int)(h:at_<=bs.length):Ep bs at_ er<=bs.length:=by
 unfold Ep;split
 ·exact h
 ·have:=(Jt (bs.drop at_) 0 0 (fun x hx=>h8 x (Bz hx)) nj rX).2.1;rw[AQ]at this;omega
theorem gL(w:World)(g base:Nat)(bs:List Nat)(A:Option Addr)(c at_:Nat)(er:Int)(j:bs.length<=100000)(h8:∀x∈bs,x<=255)(h:RCur w g base bs A c at_ er):
 Calls prog 213 #[.pointer (some ⟨g,0,none⟩)] w fun e w'=>e= .returned (.int .u64 (Dw bs at_ er:Nat))/\RCur w' g base bs A c (Ep bs at_ er) (Ex bs at_ er)/\Kept (Bh g w) w w':=by
 obtain⟨d0,d1,d2⟩:=h.cells;have f1:=h.blk.frozen 1;have f2:=h.blk.frozen 2;have i:=iT h8 er h.le;have H:=hid h;by_cases he:er=0
 ·subst he;have D:=hid (fun q=>jV (w.drewN q) A bs.length c at_ bs rfl j h.le h8 (h.drewN q).row);have eV:Dw bs at_ 0=(A0 (bs.drop at_) 0 0).1:=Aa rX;have eA:Ep bs at_ 0=at_+(A0 (bs.drop at_) 0 0).2.1:=Aa rX;have eE:Ex bs at_ 0=(A0 (bs.drop at_) 0 0).2.2:=Aa rX;rw[<-eV,<-eA,<-eE]at D;generalize Dw bs at_ 0=V at *;generalize Ep bs at_ 0=P at *;generalize Ex bs at_ 0=E at *;clear eV eA eE h;obtain⟨N,hN⟩:=ii bs.length;rw[<-hN]at d0 D i;have y:=hid hN;clear hN;go_enter func213,ntmps213;go_wp2_with fail;go_quiet ((go_at_call 263;exact C9 (D.out _)));go_wp2_with fail;go_ret;exact⟨rfl,(((H.out.drewN _).setAt P (by rw[<-y.out];exact i)).setErr E),((Kept.of_below (B:=w.heap.size) sT (fun x hx=>hx.1)).set (fun h=>h.2 rfl) _).set (fun h=>h.2 rfl) _⟩
 ·have g1:(er != 0)=true:=by simpa using he
  have eV:Dw bs at_ er=0:=Ab he;have eA:Ep bs at_ er=at_:=Ab he;have eE:Ex bs at_ er=er:=Ab he;rw[eV,eA,eE];clear eV eA eE h he i;go_enter func213,ntmps213;go_wp2_with fail;go_ret;exact⟨rfl,H.out,Kept.refl _ _⟩
theorem WH(w:World)(g base:Nat)(bs:List Nat)(A:Option Addr)(c at_:Nat)(er:Int)(most:Nat)(z:bs.length<=100000)(h8:∀x∈bs,x<=255)(M:most<=1000000000)(h:RCur w g base bs A c at_ er):
 Calls prog 149 #[.pointer (some ⟨g,0,none⟩),most] w fun e w'=>e= .returned (.int .i64 (AV most bs at_ er:Nat))/\RCur w' g base bs A c (uZ most bs at_ er) (wZ most bs at_ er)/\Kept (Bh g w) w w':=by
 obtain⟨d0,d1,d2⟩:=h.cells;have D:=hid (gL w g base bs A c at_ er z h8 h);have J:=h.le;have g0:=ig ((most:Int)<0)
 have u1:IntKind.u64.wrap (most:Int)=(most:Int):=pm
 have hV:er=0->Dw bs at_ er=(A0 (bs.drop at_) 0 0).1/\Ep bs at_ er=at_+(A0 (bs.drop at_) 0 0).2.1/\Ex bs at_ er=(A0 (bs.drop at_) 0 0).2.2:=fun he=>⟨Aa sC,Aa sC,Aa sC⟩;have y:=Jt (bs.drop at_) 0 0 (fun x hx=>h8 x (Bz hx)) nj rX
 have j:(Ex bs at_ er≠0->AV most bs at_ er=0/\uZ most bs at_ er=Ep bs at_ er/\wZ most bs at_ er=Ex bs at_ er)/\(Ex bs at_ er=0->most<Dw bs at_ er->AV most bs at_ er=0/\uZ most bs at_ er=at_/\wZ most bs at_ er=6)/\(Ex bs at_ er=0->¬most<Dw bs at_ er->AV most bs at_ er=Dw bs at_ er/\uZ most bs at_ er=Ep bs at_ er/\wZ most bs at_ er=0):=by
  by_cases he:er=0
  ·obtain⟨e1,e2,e3⟩:=hV he;have i1:AV most bs at_ er=(BE most (bs.drop at_)).1:=Aa sC;have i2:uZ most bs at_ er=at_+(BE most (bs.drop at_)).2.1:=Aa sC;have i3:wZ most bs at_ er=(BE most (bs.drop at_)).2.2:=Aa sC;rw[e1,e2,e3,i1,i2,i3];unfold BE;generalize A0 (bs.drop at_) 0 0=R at *;refine⟨fun h=> ?_,fun h h2=> ?_,fun h h2=> ?_⟩
   ·rw[Ab h];exact⟨rfl,by have:=y.2.2.2.1 h;simp[this.2],rfl⟩
   ·rw[Aa sw,Ab h2];exact⟨rfl,rfl,rfl⟩
   ·rw[Aa sw,Aa h2];exact⟨rfl,rfl,h⟩
  ·have e1:Dw bs at_ er=0:=Ab he;have e2:Ep bs at_ er=at_:=Ab he;have e3:Ex bs at_ er=er:=Ab he;have i1:AV most bs at_ er=0:=Ab he;have i2:uZ most bs at_ er=at_:=Ab he;have i3:wZ most bs at_ er=er:=Ab he;rw[e1,e2,e3,i1,i2,i3];exact⟨fun _=>⟨rfl,rfl,rfl⟩,fun h=>absurd h he,fun h=>absurd h he⟩
 have N:Dw bs at_ er<18446744073709551616:=by
  by_cases he:er=0
  ·rw[(hV he).1];exact y.1
  ·rw[show Dw bs at_ er=0 from Ab he];omega
 have L:uZ most bs at_ er<=bs.length:=by
  unfold uZ;split
  ·exact J
  ·have:=(Hu most (bs.drop at_) (fun x hx=>h8 x (Bz hx))).2.1;rw[AQ]at this;omega
 generalize AV most bs at_ er=IV at *;generalize uZ most bs at_ er=IA at *;generalize wZ most bs at_ er=IE at *;generalize Dw bs at_ er=V at *;generalize Ep bs at_ er=NA at *;generalize Ex bs at_ er=E at *;clear hV y h8 h;by_cases hE:E=0
 ·by_cases i:most<V
  ·obtain⟨rfl,rfl,rfl⟩:=j.2.1 hE i;have g1:(E != 0)=false:=(by simp[hE]);have g2:=ic ((most:Int)<V);have G:=ic (most<V);have HE:=hid hE;clear j hE i;go_enter func149,ntmps149;go_wp2_with fail;refine D.out.mono ?_;rintro e w1 ⟨rfl,hc,hk⟩;have HC:=hid hc;have HK:=hid hk;have e1:=hc.cells.2.1;have d2:=hc.cells.2.2;have f1:=hc.blk.frozen 1;have f2:=hc.blk.frozen 2;clear hc hk D d0;go_wp2_with fail;go_ret;exact⟨rfl,(HC.out.setAt _ L).setErr 6,(HK.out.set (fun h=>h.2 rfl) _).set (fun h=>h.2 rfl) _⟩
  ·obtain⟨rfl,rfl,rfl⟩:=j.2.2 hE i;have g1:(E != 0)=false:=(by simp[hE]);have g2:=ig ((most:Int)<IV);have G:=ig (most<IV);have s2:IntKind.i64.wrap (IV:Int)=(IV:Int):=pi;have HE:=hid hE;clear j hE i;go_enter func149,ntmps149;go_wp2_with fail;refine D.out.mono ?_;rintro e w1 ⟨rfl,hc,hk⟩;have HC:=hid hc;have HK:=hid hk;have d2:=hc.cells.2.2;clear hc hk D d0 d1;go_wp2_with fail;go_ret;exact⟨rfl,by rw[<-HE.out];exact HC.out,HK.out⟩
 ·obtain⟨rfl,rfl,rfl⟩:=j.1 hE;have g1:(IE != 0)=true:=by simpa using hE
  clear j hE;go_enter func149,ntmps149;go_wp2_with fail;refine D.out.mono ?_;rintro e w1 ⟨rfl,hc,hk⟩;have HC:=hid hc;have HK:=hid hk;have d2:=hc.cells.2.2;clear hc hk D d0 d1;go_wp2_with fail;go_ret;exact⟨rfl,HC.out,HK.out⟩
theorem jG(w:World)(gb base n c:Nat)(A:Option Addr)(xs:List Value)(hc:w.cell? ⟨gb,0,none⟩=some (.slice A n c))(i:n<=3000000)(ho:w.ownsRow base 3 1 (.slice A n c) n xs)(h:∀u∈xs,u.oneCell'=true):
 Calls prog 15 #[.pointer (some ⟨gb,0,none⟩)] w fun e w'=>∃v,e= .returned v/\w'.ownsRow w 3 1 v n xs/\Below w w w':=by
 have D:=hid (i7 w base A n c xs i ho h);clear ho h;go_enter func15,ntmps15;go_wp2_with fail;refine D.out.mono ?_;rintro e w1 ⟨v,rfl,ho,hb⟩;obtain⟨A1,c1,rfl⟩:=bZ ho;have HO:=hid ho;have HB:=hid hb;clear ho hb D;go_wp2_with fail;go_ret;exact⟨_,rfl,HO.out,HB.out⟩
end Go.Proofs.YtfgdoknipbpfhaaGreatDoor
