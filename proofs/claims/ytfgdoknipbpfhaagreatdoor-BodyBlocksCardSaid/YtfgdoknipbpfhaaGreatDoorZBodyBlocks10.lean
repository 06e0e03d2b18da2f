/- The walks of nums.sc -/
import Derived.Test.YtfgdoknipbpfhaaGreatDoorZBodyBlocks3
import Derived.Laws.Bits64b
import Derived.Laws.EntriesVeiled
import Derived.Deep.AppendLies
namespace Go.Proofs.YtfgdoknipbpfhaaGreatDoor
open Go.Proofs.Tryz
open Go.Lib (hid)
set_option maxRecDepth 100000
variable{base c i n:Nat}{ls:List Nat}{w:World}{A:Option Addr}{xs:List Value}
namespace Nums
open Go.RowKit Mem Own Canon
def Bg:List Nat->Nat->Nat->Nat×Nat×Int
 | [],_,_=>(0,0,1)
 |c :: t,i,x=>if(i=9/\c≠1)∨(0<i/\c=0)then(0,0,2)else if c<128 then(x+c % 128*2 ^ (7*i),i+1,0)else Bg t (i+1) (x+c % 128*2 ^ (7*i))
theorem J1:∀ (l:List Nat) (i x:Nat),(∀c∈l,c<=255)->i<=9->x<2 ^ (7*i)->(Bg l i x).1<18446744073709551616/\(Bg l i x).2.1<=l.length+i/\((Bg l i x).2.2=0->i<(Bg l i x).2.1)/\((Bg l i x).2.2≠0->(Bg l i x).1=0/\(Bg l i x).2.1=0)/\0<=(Bg l i x).2.2/\(Bg l i x).2.2<=2
 | [],i,x,_,_,_=>by simp[Bg]
 |c :: t,i,x,h8,hi,hx=>by
  have hc:=h8 c oK;rw[Bg];have hp:2 ^ (7*(i+1))=128*2 ^ (7*i):=nV
  by_cases h1:(i=9/\c≠1)∨(0<i/\c=0)
  ·rw[Ab h1];simp
  ·rw[Aa h1];have hb:x+c % 128*2 ^ (7*i)<2 ^ (7*(i+1)):=(by rw[hp];have:c % 128*2 ^ (7*i)<=127*2 ^ (7*i):=Gc _ mw;omega);by_cases h2:c<128
   ·rw[Ab h2];refine⟨?_,oT,fun _=>oK,fun h=>absurd rfl h,oK,oK⟩;by_cases h9:i=9
    ·subst h9;have:c=1:=mw;subst this;have:x<2 ^ 63:=hx;simp;omega
    ·have j:2 ^ (7*(i+1))<=2 ^ 63:=Cc mw mw;show x+c % 128*2 ^ (7*i)<_;omega
   ·rw[Aa h2];have y:i≠9:=mw;have ih:=J1 t (i+1) _ (fun d hd=>h8 d (by simp[hd])) mw hb;refine⟨ih.1,by have:=ih.2.1;simp;omega,fun h=>by have:=ih.2.2.1 h;omega,ih.2.2.2⟩
theorem Tf{x t:Nat}(hx:x<2 ^ i)(h:x+t*2 ^ i<18446744073709551616):bits .or .u64 (x:Int) ((t*2 ^ i:Nat):Int)=((x+t*2 ^ i:Nat):Int):=by rw[bits_or_u64_nat x _ mw mw,Nat.mul_comm t,Nat.or_comm,<-Nat.two_pow_add_eq_or_of_lt hx];congr 1;omega
theorem SQ(w:World)(A:Option Addr)(n c:Nat)(ls:List Nat)(hn:ls.length=n)(hN:n<=100000)(h8:∀x∈ls,x<=255)(ha:Row w w A n 1 (jZ .u8 ls)):
 Calls prog 241 #[.slice A n c] w fun e w'=>e= .returned (.tuple #[.int .u64 (Bg ls 0 0).1, .int .i64 (Bg ls 0 0).2.1, .int .i64 (Bg ls 0 0).2.2])/\w'=w:=by
 have HA:=hid ha;have HN:=hid hn;have H8:=hid h8;clear ha hn h8;obtain⟨R,hR⟩:=ii (Bg ls 0 0);rw[<-hR];have HR:=hid hR;clear hR;go_enter func241,ntmps241;go_wp2_with fail;go_loopw [2,9] (fun xv i wx=>∃k x:Nat,k<=n/\k<=9/\xv= .int .u64 x/\i= .int .i64 k/\Hid (x<2 ^ (7*k))/\Hid (Bg (ls.drop k) k x=R)/\wx=w) (fun _ i _=>n-(intOf i).toNat)
 case atStart=>exact⟨0,0,mw,mw,rfl,rfl,by show _<_;simp,HR.out.symm,rfl⟩
 case round=>
  obtain⟨k,x,hk,ai,rfl,rfl,hx,hS,rfl⟩:=hrel;by_cases aa:k<n
  ·obtain⟨b,ak,y,rfl,hb,hy,hc⟩:=Cx HA.out HN.out aa;have J:k<ls.length:=(by rw[HN.out];exact aa);have aj:y<=255:=H8.out y (Be hy);have hs:=hS.out;rw[Dj J,Bg]at hs;rw[Az J]at hy;injection hy with hy;rw[hy]at hs;have y0:(0:Int)<=(k:Int):=mw;have y1:(k:Int)<(n:Int):=mw;by_cases h9:k=9/\y≠1
   ·rw[Ab (.inl h9)]at hs;have g1:((k:Int)==9)=true:=oT;have g2:((y:Int) != 1)=true:=oT;have HS:=hid hs;clear hs hS hx h9 hy J;go_wp2_with fail
    go_ret3
    exact⟨by rw[<-HS.out];rfl,rfl⟩
   ·by_cases h0:0<k/\y=0
    ·rw[Ab (.inr h0)]at hs;have g1:((k:Int)==9)=false:=nC;have g3:=ic (0<k);have g4:((y:Int)==0)=true:=oT;have HS:=hid hs;clear hs hS hx h9 h0 hy J;go_wp2_with fail
     go_ret3
     exact⟨by rw[<-HS.out];rfl,rfl⟩
    ·rw[Aa mw]at hs;have Q:=hx.out;obtain⟨E,hE⟩:=ii (7*k);rw[<-hE]at hs Q;obtain⟨c7,Y⟩:=ii (y % 128);rw[<-Y]at hs;obtain⟨x2,N⟩:=ii (x+c7*2 ^ E);have ac:2 ^ E<=2 ^ 63:=Cc mw mw;have ae:c7*2 ^ E<=127*2 ^ E:=Gc _ (by omega)
     have U:x+c7*2 ^ E<18446744073709551616:=by
      by_cases j:k=9
      ·have:y=1:=mw;have e7:c7=1:=mw;have af:E=63:=mw;subst af;rw[e7];have:x<2 ^ 63:=Q;omega
      ·have:2 ^ E<=2 ^ 56:=Cc mw mw;omega
     obtain⟨t2,Z⟩:=ii (c7*2 ^ E);have s1:IntKind.i64.wrap (7*(k:Int))=(E:Int):=m8
     have e1:bits .andNot .u8 (y:Int) 128=(c7:Int):=(by have h:=u8_andNot_nat y 128 mw mw;rw[show(255-128)=2 ^ 7-1 from rfl,Nl]at h;rw[Y];exact h);have s2:IntKind.u64.wrap (c7:Int)=(c7:Int):=m9;have s3:IntKind.u64.wrap ((c7:Int)*2 ^ E)=(t2:Int):=(by rw[Bq,Z];have:((c7:Int)*2 ^ E)=((c7*2 ^ E:Nat):Int):=(by push_cast;rfl);rw[this];omega);have e2:bits .or .u64 (x:Int) (t2:Int)=(x2:Int):=(by rw[Z,Tf Q U,N]);rw[<-N]at hs;have z0:(0:Int)<=(E:Int):=mw;have z1:(E:Int)<=64:=mw;have ab:x2<2 ^ (7*(k+1)):=(by rw[N,show 7*(k+1)=E+7 by omega,Nat.pow_add];omega);have HP:=hid ab;have HS:=hid hs;have H9:Hid (k=9->y=1):=fun h=>mw
     have ag:((k:Int)==9&&(y:Int) != 1)=false∨True:= .inr trivial;clear hs hS hx Q hy J N Z Y ac ae U hE ab ag;have M:=HS;by_cases z:y<128
     ·have g5:=ic ((y:Int)<128);have g6:=ic (y<128);have hs:=HS.out;rw[Ab z]at hs;have G:=hid hs;have s5:IntKind.i64.wrap ((k:Int)+1)=(k:Int)+1:=m4;clear hs HS M z;by_cases j:k=9
      ·have g1:((k:Int)==9)=true:=oT;have g2:((y:Int) != 1)=false:=lj;have g3:=ic (0<k);have g4:((y:Int)==0)=false:=lj;clear j h9 h0;go_wp2_with fail
       go_ret3
       exact⟨by rw[<-G.out];rfl,rfl⟩
      ·have g1:((k:Int)==9)=false:=nC;by_cases L:k=0
       ·have g3:=ig (0<k);clear j L h9 h0;go_wp2_with fail
        go_ret3
        exact⟨by rw[<-G.out];rfl,rfl⟩
       ·have g3:=ic (0<k);have g4:((y:Int)==0)=false:=nC;clear j L h9 h0;go_wp2_with fail
        go_ret3
        exact⟨by rw[<-G.out];rfl,rfl⟩
     ·have g5:=ig ((y:Int)<128);have g6:=ig (y<128);have hs:=HS.out;rw[Aa z]at hs;have G:=hid hs;have ah:k≠9:=fun h=>by have:=H9.out h;omega
      clear hs HS M z;by_cases j:k=9
      ·have g1:((k:Int)==9)=true:=oT;have g2:((y:Int) != 1)=false:=lj;have g3:=ic (0<k);have g4:((y:Int)==0)=false:=lj;clear j h9 h0;go_wp2_with fail;go_roundw
       case measure=>exact jo
       case rel=>exact ji
      ·have g1:((k:Int)==9)=false:=nC;by_cases L:k=0
       ·have g3:=ig (0<k);clear j L h9 h0;go_wp2_with fail;go_roundw
        case measure=>exact jo
        case rel=>exact ji
       ·have g3:=ic (0<k);have g4:((y:Int)==0)=false:=nC;clear j L h9 h0;go_wp2_with fail;go_roundw
        case measure=>exact jo
        case rel=>exact ji
  ·obtain rfl:k=n:=by omega
   have hs:=hS.out;rw[EB nm,Bg]at hs;have HS:=hid hs;clear hs hS hx;go_wp2_with fail
   go_ret3
   exact⟨by rw[<-HS.out];rfl,rfl⟩
end Nums
namespace Nums
open Go.RowKit Mem Own Canon
theorem numL_get{k:IntKind}(h:i<ls.length):(cZ k ls)[i*1+0]? =some (jZ k ls i 0):=by simp[cZ,jZ,List.getD_eq_getElem?_getD,h]
theorem own_row(h:w.ownsRow base 5 1 (.slice A ls.length c) ls.length (cZ .u8 ls)):Row w w A ls.length 1 (jZ .u8 ls):=
 Row.of_own h rfl fun i j hi hj=>by
  obtain rfl:j=0:=mw
  exact numL_get hi
theorem Jh(h:w.ownsRow base 5 1 (.slice A n c) n xs):A=none->n=0/\c=0:=(Em h).1
theorem jJ(h:w.ownsRow base 5 1 (.slice A n c) n xs):∀a,A=some a->a.add 0=a:=by
 intro a ha;subst ha;rcases h.2 with ⟨hv,_⟩|⟨g,i,cur,hv,_⟩
 ·cases hv
 ·injection hv with e1 e2 e3;injection e1 with e1;subst e1;exact FY g 0 0
def Bx(most:Nat)(ls:List Nat):Nat×Nat×Int:=
 if(Bg ls 0 0).2.2≠0 then(0,0,(Bg ls 0 0).2.2)else if most<(Bg ls 0 0).1 then(0,0,6)else Bg ls 0 0
theorem G8(most:Nat)(ls:List Nat)(h8:∀c∈ls,c<=255):(Bx most ls).1<=most/\(Bx most ls).2.1<=ls.length/\((Bx most ls).2.2=0->1<=(Bx most ls).2.1)/\((Bx most ls).2.2≠0->(Bx most ls).1=0/\(Bx most ls).2.1=0)/\0<=(Bx most ls).2.2/\(Bx most ls).2.2<=6:=by
 have h:=J1 ls 0 0 h8 mw oK;unfold Bx;split
 ·rename_i he;exact⟨oK,oK,fun h0=>absurd h0 he,fun _=>⟨rfl,rfl⟩,h.2.2.2.2.1,by have:=h.2.2.2.2.2;show(Bg ls 0 0).2.2<=6;omega⟩
 ·rename_i he;split
  ·exact⟨oK,oK,fun h0=>absurd h0 ip,fun _=>⟨rfl,rfl⟩,oK,oK⟩
  ·exact⟨mw,by have:=h.2.1;omega,fun h0=>by have:=h.2.2.1 h0;omega,h.2.2.2.1,h.2.2.2.2.1,by have:=h.2.2.2.2.2;omega⟩
theorem RU(w:World)(A:Option Addr)(n c:Nat)(ls:List Nat)(most:Nat)(h:most<=1000000000)(hn:ls.length=n)(hN:n<=100000)(h8:∀x∈ls,x<=255)(ha:Row w w A n 1 (jZ .u8 ls)):
 Calls prog 190 #[.slice A n c,most] w fun e w'=>e= .returned (.tuple #[.int .i64 (Bx most ls).1, .int .i64 (Bx most ls).2.1, .int .i64 (Bx most ls).2.2])/\w'=w:=by
 have D:=SQ w A n c ls hn hN h8 ha;have hs:=J1 ls 0 0 h8 mw oK;unfold Bx;clear hn h8 ha;generalize Bg ls 0 0=R at *;obtain⟨x,k,er⟩:=R;simp only at hs D ⊢;have hx:=hs.1;have D:=hid D;have s1:IntKind.u64.wrap (most:Int)=(most:Int):=m9
 by_cases he:er=0
 ·subst he;rw[Aa oK];by_cases hm:most<x
  ·rw[Ab hm];have g1:=ic ((most:Int)<x);have g2:=ic (most<x);clear hs hm;go_enter func190,ntmps190;go_wp2_with fail;refine D.out.mono ?_;rintro e w1 ⟨rfl,rfl⟩;go_wp2_with fail
   go_ret3
   exact⟨rfl,rfl⟩
  ·rw[Aa hm];have g1:=ig ((most:Int)<x);have g2:=ig (most<x);have s2:IntKind.i64.wrap (x:Int)=(x:Int):=m4;clear hs hm;go_enter func190,ntmps190;go_wp2_with fail;refine D.out.mono ?_;rintro e w1 ⟨rfl,rfl⟩;go_wp2_with fail
   go_ret3
   exact⟨rfl,rfl⟩
 ·rw[Ab he];have g1:(er != 0)=true:=by simpa using he
  clear hs he;go_enter func190,ntmps190;go_wp2_with fail;refine D.out.mono ?_;rintro e w1 ⟨rfl,rfl⟩;go_wp2_with fail
  go_ret3
  exact⟨rfl,rfl⟩
structure Cur (w:World) (g base:Nat) (bs:List Nat) (A:Option Addr) (c at_:Nat) (er:Int):Prop where
 blk:Blk w g 243 #[.slice A bs.length c,at_,er]
 own:w.ownsRow base 5 1 (.slice A bs.length c) bs.length (cZ .u8 bs)
 le:at_<=bs.length
 lo:base<=g
section
variable {w w':World} {g base:Nat} {bs:List Nat} {A:Option Addr} {c at_:Nat} {er:Int}
theorem Cur.drew(h:Cur w g base bs A c at_ er):Cur w.drew g base bs A c at_ er:=⟨h.blk,h.own,h.le,h.lo⟩
theorem Cur.drewN(h:Cur w g base bs A c at_ er)(q:Nat):Cur (w.drewN q) g base bs A c at_ er:=⟨h.blk,h.own,h.le,h.lo⟩
theorem Cur.step(h:Cur w g base bs A c at_ er)(hb:Below w w w'):Cur w' g base bs A c at_ er:=
 ⟨h.blk.step hb,eZ h.own (fun x hx=>hb.block x (Aj h.own x hx).2),h.le,h.lo⟩
theorem Cur.cells(h:Cur w g base bs A c at_ er):w.cell? ⟨g,0,none⟩=some (.slice A bs.length c)/\w.cell? ⟨g,1,none⟩=some (.int .i64 at_)/\w.cell? ⟨g,2,none⟩=some (.int .i64 er):=⟨h.blk.cell 0,h.blk.cell 1,h.blk.cell 2⟩
theorem Cur.setErr(h:Cur w g base bs A c at_ er)(e2:Int):Cur (w.setCell ⟨g,2,none⟩ (.int .i64 e2)) g base bs A c at_ e2:=
 ⟨h.blk.set 2 _,eZ h.own (fun x hx=>AR w _ _ x (fun e=>gZ h.own h.blk ip (hx.trans (Aw some e)))),h.le,h.lo⟩
theorem Cur.setAt(h:Cur w g base bs A c at_ er)(i:Nat)(h2:i<=bs.length):Cur (w.setCell ⟨g,1,none⟩ (.int .i64 i)) g base bs A c i er:=
 ⟨h.blk.set 1 _,eZ h.own (fun x hx=>AR w _ _ x (fun e=>gZ h.own h.blk ip (hx.trans (Aw some e)))),h2,h.lo⟩
end
theorem new_any(w:World)(A:Option Addr)(n c:Nat)(ls:List Nat)(hn:ls.length=n)(y:n<=100000)(j:A=none->n=0/\c=0)(ha:Row w w A n 1 (jZ .u8 ls)):
 Calls prog 110 #[.slice A n c] w fun e w'=>∃g B d,e= .returned (.pointer (some ⟨g,0,none⟩))/\Cur w' g w ls B d 0 0/\Below w w w':=by
 have D:=hid (Hw w A n c ls hn y j ha);have HN:=hid hn;clear hn j ha;go_enter func110,ntmps110;go_wp2_with fail;refine D.out.mono ?_;rintro e w1 ⟨v,rfl,i,hb⟩;obtain⟨B,d,rfl⟩:=bZ i;have hz:=hb.size;have HO:=hid i;have HB:=hid hb;clear i hb D;go_wp2_with fail;go_ret;refine⟨w1.heap.size,B,d,rfl,⟨?_,?_,Cr _,hz⟩,nZ hz HB.out⟩
 ·rw[HN.out];exact Blk.made _ _ _
 ·have h:=HO.out.alloc (.cells #[.slice B n d,ij,ij] 243);rw[HN.out];exact h
theorem Dl(w:World)(g base:Nat)(bs:List Nat)(A:Option Addr)(c at_:Nat)(er:Int)(h:Cur w g base bs A c at_ er):
 Calls prog 113 #[.pointer (some ⟨g,0,none⟩)] w fun e w'=>e= .returned (.int .i64 er)/\w'=w:=by
 obtain⟨d0,d1,d2⟩:=h.cells;clear h;go_enter func113,ntmps113;go_wp2_with fail;go_ret;exact⟨rfl,rfl⟩
theorem Jq(w:World)(g base:Nat)(bs:List Nat)(A:Option Addr)(c at_:Nat)(er:Int)(h:Cur w g base bs A c at_ er):
 Calls prog 195 #[.pointer (some ⟨g,0,none⟩)] w fun e w'=>e= .returned (.int .i64 at_)/\w'=w:=by
 obtain⟨d0,d1,d2⟩:=h.cells;clear h;go_enter func195,ntmps195;go_wp2_with fail;go_ret;exact⟨rfl,rfl⟩
def FX(er e2:Int):Int:=if er=0 then e2 else er
theorem GM(w:World)(g base:Nat)(bs:List Nat)(A:Option Addr)(c at_:Nat)(er e2:Int)(h:Cur w g base bs A c at_ er):
 Calls prog 186 #[.pointer (some ⟨g,0,none⟩),e2] w fun e w'=>e= .returned (.tuple #[])/\Cur w' g base bs A c at_ (FX er e2)/\Kept (fun x=>x≠g) w w':=by
 obtain⟨d0,d1,d2⟩:=h.cells;have f2:=h.blk.frozen 2;have H:=hid h;clear h;unfold FX;by_cases he:er=0
 ·subst he;rw[Ab rfl];go_enter func186,ntmps186;go_wp2_with fail;refine bodyPost_end (BJ rfl _ _ _) rfl ?_;exact⟨rfl,H.out.setErr e2,(Kept.refl _ _).set (fun h=>h rfl) _⟩
 ·rw[Aa he];have g1:(er==0)=false:=by simpa using he
  clear he;go_enter func186,ntmps186;go_wp2_with fail;refine bodyPost_end (BJ rfl _ _ _) rfl ?_;exact⟨rfl,H.out,Kept.refl _ _⟩
theorem rest_any(w:World)(g base:Nat)(bs:List Nat)(A:Option Addr)(c at_:Nat)(er:Int)(h:Cur w g base bs A c at_ er):
 Calls prog 240 #[.pointer (some ⟨g,0,none⟩)] w fun e w'=>e= .returned (.slice (AQ A at_ c 1) (bs.length-at_) (c-at_))/\∃q,w'=w.drewN q:=by
 obtain⟨d0,d1,d2⟩:=h.cells;have kc:=fun wx=>FU (P:=prog) (t:=28) (s:=1) underlying28 (fun _=>by kernel_rfl) A bs.length c .i64 (at_:Int) at_ rfl h.le wx;generalize bs.length=n at *;clear h;go_enter func240,ntmps240;go_wp2_with fail;go_quiet (fail);go_wp2_with fail;go_ret;exact⟨rfl,_,rfl⟩
end Nums
namespace Nums
open Go.RowKit Mem Own Canon
open Crc (EQ Gu Fy)
theorem BS{s:Nat}{e:TypeId}{v:Value}{p:Addr}(h:w.ownsRow base e s v n xs)(hr:v.ownBlock≠some p.block)(u:Value):(w.setCell p u).ownsRow base e s v n xs:=
 eZ h fun b hb=>AR w p u b (fun e=>hr (hb.trans (Aw some e)))
def By(g:Nat)(w:World)(x:Nat):Prop:=x<w.heap.size/\x≠g
theorem L9(w:World)(g base:Nat)(bs:List Nat)(A:Option Addr)(c at_:Nat)(er:Int)(h:Cur w g base bs A c at_ er)(he:er≠0)(u:Value):
 Calls prog 188 #[.pointer (some ⟨g,0,none⟩),u] w fun e w'=>e= .returned (.bool false)/\w'=w:=by
 have D:=hid (Dl w g base bs A c at_ er h);have g1:(er != 0)=true:=ph
 clear h he;go_enter func188,ntmps188;go_wp2_with fail;refine D.out.mono ?_;rintro e w1 ⟨rfl,rfl⟩;go_wp2_with fail;go_ret;exact⟨rfl,rfl⟩
theorem Mf(w:World)(g base:Nat)(bs:List Nat)(A:Option Addr)(c at_:Nat)(h:Cur w g base bs A c at_ 0)(j:bs.length<=100000)(K:Nat)(i:Array Value)(R:Nat->Int->World->Prop)
 (hK:∀args wx,(callFunc K args).run prog wx= .ok (.enter K args) wx)
 (hs:∀q,Calls prog K (#[.slice (AQ A at_ c 1) (bs.length-at_) (c-at_)]++i) (w.drewN q) fun e w'=>∃ (k:Nat) (e2:Int),e= .returned (.tuple #[.int .i64 k,e2])/\k<=100000/\Cur w' g base bs A c at_ 0/\R k e2 w'):
 Calls prog 188 #[.pointer (some ⟨g,0,none⟩), .func (.func K) #[] i] w fun e w'=>∃ (k:Nat) (e2:Int) (w2:World),R k e2 w2/\Cur w2 g base bs A c at_ 0/\
  ((e2≠0/\e= .returned (.bool false)/\w'=w2.setCell ⟨g,2,none⟩ (.int .i64 e2))∨(e2=0/\e= .returned (.bool true)/\w'=w2.setCell ⟨g,1,none⟩ (.int .i64 (at_+k:Nat)))):=by
 have D:=hid (Dl w g base bs A c at_ 0 h);have D2:=hid (rest_any w g base bs A c at_ 0 h);have y:=h.le;have HS:=hid hs;clear h hs;go_enter func188,ntmps188;go_wp2_with fail;refine D.out.mono ?_;rintro e w1 ⟨rfl,rfl⟩;go_wp2_with fail;refine D2.out.mono ?_;rintro e w2 ⟨rfl,q,rfl⟩;go_wp2_with fail;refine(HS.out q).mono ?_;rintro e w3 ⟨k,e2,rfl,hk,hc,hR⟩;obtain⟨d0,d1,d2⟩:=hc.cells;have f1:=hc.blk.frozen 1;have f2:=hc.blk.frozen 2;have HC:=hid hc;have HR:=hid hR;clear hc hR D D2 HS;by_cases he:e2=0
 ·subst he;have s1:IntKind.i64.wrap ((at_:Int)+(k:Int))=((at_+k:Nat):Int):=by rw[Aq _ mw];omega
  go_wp2_with fail;go_ret;exact⟨k,0,w3,HR.out,HC.out, .inr ⟨rfl,rfl,oK⟩⟩
 ·have g1:(e2 != 0)=true:=by simpa using he
  have HE:=hid he;clear he;go_wp2_with fail;go_ret;exact⟨k,e2,w3,HR.out,HC.out, .inl ⟨HE.out,rfl,rfl⟩⟩
def Bu(bs:List Nat)(at_:Nat)(er:Int)(n:Nat):List Nat:=if er≠0 then []else if bs.length-at_<n then []else(bs.drop at_).take n
def takeA(bs:List Nat)(at_:Nat)(er:Int)(n:Nat):Nat:=if er≠0 then at_ else if bs.length-at_<n then at_ else at_+n
def BK(bs:List Nat)(at_:Nat)(er:Int)(n:Nat):Int:=if er≠0 then er else if bs.length-at_<n then 1 else 0
def JH(w:World)(g base:Nat)(bs:List Nat)(A:Option Addr)(c at_:Nat)(er:Int)(n:Nat)(e:Ending)(w':World):Prop:=
 ∃v,e= .returned v/\w'.ownsRow w 5 1 v (Bu bs at_ er n).length (cZ .u8 (Bu bs at_ er n))/\Cur w' g base bs A c (takeA bs at_ er n) (BK bs at_ er n)/\Kept (By g w) w w'
def KA(w:World)(g ob:Nat)(bs:List Nat)(at_ n:Nat)(k:Nat)(e2:Int)(w':World):Prop:=
 Kept (fun x=>x<w.heap.size/\x≠g/\x≠ob) w w'/\(k:Int)=(if bs.length-at_<n then 0 else n)/\e2=(if bs.length-at_<n then 1 else 0)/\
  ∃v,Blk w' ob 28 #[v]/\w'.ownsRow w 5 1 v (Bu bs at_ 0 n).length (cZ .u8 (Bu bs at_ 0 n))
theorem ZS(w:World)(g base nb ob:Nat)(bs:List Nat)(A:Option Addr)(c at_ n:Nat)(ag:bs.length<=100000)(hn:n<=1000000000)(h:Cur w g base bs A c at_ 0)(N:Blk w nb 3 #[n])(y:Blk w ob 28 #[()]):
 Calls prog 239 #[.slice (AQ A at_ c 1) (bs.length-at_) (c-at_), .pointer (some ⟨nb,0,none⟩), .pointer (some ⟨ob,0,none⟩)] w fun e w'=>∃ (k:Nat) (e2:Int),e= .returned (.tuple #[.int .i64 k,e2])/\k<=100000/\Cur w' g base bs A c at_ 0/\KA w g ob bs at_ n k e2 w':=by
 have d0:=N.ia 0;have d1:=y.ia 0;have f1:=y.frozen 0;have J:=Em h.own;have aa:=h.le;have G:=EQ (own_row h.own) aa J.2;have i:=jJ h.own;have Z:=Blk.apart y h.blk ip;unfold KA;rw[show Bu bs at_ 0 n=if bs.length-at_<n then []else(bs.drop at_).take n from Aa oK];by_cases j:bs.length-at_<n
 ·rw[Ab j,Ab j,Ab j];have g0:=ig ((n:Int)<0)
  have g1:=ic (((bs.length-at_:Nat):Int)<(n:Int))
  have g2:=ic (bs.length-at_<n)
  have H:=hid h;have HO:=hid y;clear G i J j h N y;go_enter func239,ntmps239;go_wp2_with fail;go_ret2;exact⟨0,1,rfl,mw,H.out,Kept.refl _ _,rfl,rfl,_,HO.out,AI _ _ _ _⟩
 ·rw[Aa j,Aa j,Aa j];have g0:=ig ((n:Int)<0)
  have g1:=ig (((bs.length-at_:Nat):Int)<(n:Int))
  have g2:=ig (bs.length-at_<n)
  have hcut:∀a,AQ A at_ c 1=some a->a.add 0=a:=by
   intro a ha;unfold AQ at ha;split at ha
   ·exact i a ha
   ·cases A with
    |none=>cases ha
    |some a0=>
     have h0:=i a0 rfl;injection ha with ha;subst ha;rcases h.own.2 with ⟨hv,_⟩|⟨gg,ah,cur,hv,_⟩
     ·cases hv
     ·injection hv with e1 e2 e3;injection e1 with e1;subst e1;show Addr.add (Addr.add ⟨gg,0,none⟩ (at_*1)) 0=Addr.add ⟨gg,0,none⟩ (at_*1);rw[FY,FY,Bf]
  have ks:=fun wx=>Fy (P:=prog) (t:=28) (s:=1) underlying28 (fun _=>by kernel_rfl) (AQ A at_ c 1) (bs.length-at_) (c-at_) .i64 (n:Int) n rfl (by have:=J.2;omega) hcut wx
  have E:AQ A at_ c 1=none->n=0/\c-at_=0:=by
   intro ha
   have hA:A=none:=by
    unfold AQ at ha;split at ha
    ·exact ha
    ·cases A with
     |none=>rfl
     |some a=>cases ha
   have:=J.1 hA;omega
  have M:((bs.drop at_).take n).length=n:=by rw[AZ,AO];omega
  have D:=hid (Hw w (AQ A at_ c 1) n (c-at_) ((bs.drop at_).take n) M mw E (Gu G mw));have H:=hid h;have HO:=hid y;generalize ac:(bs.drop at_).take n=ls at *;have ab:=hid M;generalize AQ A at_ c 1=A1 at *;have ae:n<=100000:=mw
  clear G i J j h N y hcut E ac M;go_enter func239,ntmps239;go_wp2_with fail;refine D.out.mono ?_;rintro e w1 ⟨v,rfl,L,hb⟩;obtain⟨A2,c2,rfl⟩:=bZ L;have z:=HO.out.step hb;have h1:=H.out.step hb;have hz:=hb.size;have k1:=z.ia 0;have k2:=z.frozen 0;have af:=HO.out.lt;have k0:w1.cell? ⟨nb,0,none⟩=some (.int .i64 n):=(hb.cell (p:=⟨nb,0,none⟩) (World.block_lt_of_cell? _ _ d0)).trans d0;have U:nb≠ob:=by intro e;subst e;rw[d0]at d1;cases d1
  have k3:(w1.setCell ⟨ob,0,none⟩ (.slice A2 n c2)).cell? ⟨nb,0,none⟩=some (.int .i64 n):=by rw[World.cell?_setCell_other _ _ _ _ (by intro e;injection e with e _;exact U e.symm)];exact k0
  have H1:=hid h1;have Q:=hid z;have Y:=hid L;have HB:=hid hb;clear h1 z L hb D HO H d0 d1 f1;go_wp2_with fail;go_ret2;refine⟨n,0,rfl,ae,?_,?_,rfl,rfl,_,Q.out.set 0 _,?_⟩
  ·exact⟨H1.out.blk.far (fun e=>Z e.symm) _,BS H1.out.own (gZ H1.out.own Q.out ip) _,aa,H1.out.lo⟩
  ·exact(Kept.of_below HB.out (fun x hx=>hx.1)).set (fun h=>h.2.2 rfl) _
  ·rw[ab.out];exact BS Y.out (gZ Y.out Q.out ip) _
theorem Jz(bs:List Nat)(at_ n:Nat):Bu bs at_ 0 n=if bs.length-at_<n then []else(bs.drop at_).take n:=Aa oK
theorem Jp(bs:List Nat)(at_ n:Nat):takeA bs at_ 0 n=if bs.length-at_<n then at_ else at_+n:=Aa oK
theorem Jo(bs:List Nat)(at_ n:Nat):BK bs at_ 0 n=if bs.length-at_<n then 1 else 0:=Aa oK
theorem Sx(bs:List Nat)(at_:Nat)(er:Int)(n:Nat):(Bu bs at_ er n).length<=n:=by
 unfold Bu;split
 ·simp
 ·split
  ·simp
  ·rw[AZ];omega
theorem L5(bs:List Nat)(at_:Nat)(er:Int)(n:Nat)(h:at_<=bs.length):takeA bs at_ er n<=bs.length:=by
 unfold takeA;split
 ·exact h
 ·split
  ·exact h
  ·omega
theorem JC(w:World)(g base:Nat)(bs:List Nat)(A:Option Addr)(c at_:Nat)(er:Int)(n:Nat)(aa:bs.length<=100000)(hn:n<=1000000000)(h:Cur w g base bs A c at_ er):
 Calls prog 187 #[.pointer (some ⟨g,0,none⟩),n] w (JH w g base bs A c at_ er n):=by
 have ae:=h.blk.lt;have h2:Cur ((w.alloc (.cells #[n] 3)).alloc (.cells #[()] 28)) g base bs A c at_ er:=(h.step (aZ (Ag _ _))).step (aZ (Ag _ _));have M:Blk ((w.alloc (.cells #[n] 3)).alloc (.cells #[()] 28)) w 3 #[n]:=(Blk.made _ _ _).alloc _;have J:Blk ((w.alloc (.cells #[n] 3)).alloc (.cells #[()] 28)) (w.heap.size+1) 28 #[()]:=Blk.made_at _ _ _ oK;have Q:Kept (fun x=>x<w.heap.size/\x≠g) w ((w.alloc (.cells #[n] 3)).alloc (.cells #[()] 28)):=Kept.of_below (by(repeat (with_reducible first|exact Ag _ _|assumption|refine Ar ?_ |refine below_drewN ?_ _|refine sZ ?_ |refine aZ ?_ |refine dZ im ?_ |refine belA ?_ |refine tZ im ?_)):Below w w _) (fun x hx=>hx.1);have ag:((w.alloc (.cells #[n] 3)).alloc (.cells #[()] 28)).heap.size=w.heap.size+2:=oK
 have ah:=h.le;unfold JH;by_cases he:er=0
 ·subst he;have ac:∀N wx,(callFunc 239 N).run prog wx= .ok (.enter 239 N) wx:=by intro N wx;simp[callFunc,go_sem,func239];rfl
  have D:=fun w2 (hc2:Cur w2 g base bs A c at_ 0) (M:Blk w2 w 3 #[n]) (J:Blk w2 (w.heap.size+1) 28 #[()])=>Mf w2 g base bs A c at_ hc2 aa 239 #[.pointer (some ⟨w,0,none⟩), .pointer (some ⟨w.heap.size+1,0,none⟩)] (fun k e2 w'=>KA w2 g (w.heap.size+1) bs at_ n k e2 w') ac
   (fun q=>(ZS (w2.drewN q) g base w (w.heap.size+1) bs A c at_ n aa hn (hc2.drewN q) (M.drewN q) (J.drewN q)).mono fun e w' ⟨k,e2,h1,h2,h3,h4⟩=>⟨k,e2,h1,h2,h3,⟨⟨h4.1.os,h4.1.tape,h4.1.output,h4.1.size,h4.1.block⟩,h4.2⟩⟩)
  have D:=hid (D _ h2 M J);have HK:=hid Q;clear ac h2 M J Q;have ab:w.heap.size+1≠g:=mw
  by_cases y:bs.length-at_<n
  ·have eO:Bu bs at_ 0 n= []:=(Jz _ _ _).trans (Ab y);have eA:takeA bs at_ 0 n=at_:=(Jp _ _ _).trans (Ab y);have eE:BK bs at_ 0 n=1:=(Jo _ _ _).trans (Ab y);unfold KA at D;rw[eO,Ab y,Ab y]at D;rw[eO,eA,eE];clear eO eA eE y;go_enter func187,ntmps187;go_wp2_with fail;refine D.out.mono ?_;rintro e w4 ⟨k,e2,w3,⟨j,U,Y,v,z,i⟩,G,E⟩;have L:Hid (Kept (fun x=>x<w.heap.size/\x≠g) w w3):=HK.out.trans ⟨j.os,j.tape,j.output,j.size,fun x hx=>j.block x ⟨mw,hx.2,mw⟩⟩;obtain⟨va,vc,rfl⟩:=bZ i;subst Y;rcases E with ⟨_,rfl,rfl⟩|⟨h0,_,_⟩
   ·have hB:=z.far (fun e=>ab e) (p:=⟨g,2,none⟩) (.int .i64 1);have d0:=hB.ia 0;have HC:=hid (G.setErr 1);have HO:=hid (kZ (BS (p:=⟨g,2,none⟩) i (gZ i G.blk ip) (.int .i64 1)) (show w.heap.size<=_ by omega));have Z:Hid (Kept (fun x=>x<w.heap.size/\x≠g) w (w3.setCell ⟨g,2,none⟩ (.int .i64 1))):=L.out.set (fun h=>h.2 rfl) _;generalize w3.setCell ⟨g,2,none⟩ (.int .i64 1)=w5 at *;clear hB z i G j D L HK U;go_wp2_with fail;go_ret;exact⟨_,rfl,HO.out,HC.out,Z.out⟩
   ·cases h0
  ·have af:n<=bs.length-at_:=mw;have eO:Bu bs at_ 0 n=(bs.drop at_).take n:=(Jz _ _ _).trans (Aa y);have eA:takeA bs at_ 0 n=at_+n:=(Jp _ _ _).trans (Aa y);have eE:BK bs at_ 0 n=0:=(Jo _ _ _).trans (Aa y);unfold KA at D;rw[eO,Aa y,Aa y]at D;rw[eO,eA,eE];clear eO eA eE y;generalize (bs.drop at_).take n=ls at *;go_enter func187,ntmps187;go_wp2_with fail;refine D.out.mono ?_;rintro e w4 ⟨k,e2,w3,⟨j,U,Y,v,z,i⟩,G,E⟩;have L:Hid (Kept (fun x=>x<w.heap.size/\x≠g) w w3):=HK.out.trans ⟨j.os,j.tape,j.output,j.size,fun x hx=>j.block x ⟨mw,hx.2,mw⟩⟩;obtain⟨va,vc,rfl⟩:=bZ i;subst Y;rcases E with ⟨h0,_,_⟩|⟨_,rfl,rfl⟩
   ·exact absurd rfl h0
   ·obtain rfl:k=n:=by omega
    have hB:=z.far (fun e=>ab e) (p:=⟨g,1,none⟩) (.int .i64 (at_+k:Nat));have d0:=hB.ia 0;have HC:=hid (G.setAt (at_+k) mw);have HO:=hid (kZ (BS (p:=⟨g,1,none⟩) i (gZ i G.blk ip) (.int .i64 (at_+k:Nat))) (show w.heap.size<=_ by omega));have Z:Hid (Kept (fun x=>x<w.heap.size/\x≠g) w (w3.setCell ⟨g,1,none⟩ (.int .i64 (at_+k:Nat)))):=L.out.set (fun h=>h.2 rfl) _;generalize w3.setCell ⟨g,1,none⟩ (.int .i64 (at_+k:Nat))=w5 at *;clear hB z i G j D L HK U;go_wp2_with fail;go_ret;exact⟨_,rfl,HO.out,HC.out,Z.out⟩
 ·have D:=hid (L9 _ g base bs A c at_ er h2 he (.func (.func 239) #[] #[.pointer (some ⟨w,0,none⟩), .pointer (some ⟨w.heap.size+1,0,none⟩)]));have eO:Bu bs at_ er n= []:=Ab he;have eA:takeA bs at_ er n=at_:=Ab he;have eE:BK bs at_ er n=er:=Ab he;rw[eO,eA,eE];have HK:=hid Q;have HC:=hid h2;have d0:=J.ia 0;clear h2 M J Q he eO eA eE;go_enter func187,ntmps187;go_wp2_with fail;refine D.out.mono ?_;rintro e w4 ⟨rfl,rfl⟩;go_wp2_with fail;go_ret;exact⟨_,rfl,AI _ _ _ _,HC.out,HK.out⟩
def Gl(bs:List Nat)(at_:Nat)(er:Int):Nat:=if er≠0 then 0 else bs.getD at_ 0
theorem Sm(w:World)(g base:Nat)(bs:List Nat)(A:Option Addr)(c at_:Nat)(er:Int)(j:bs.length<=100000)(h:Cur w g base bs A c at_ er):
 Calls prog 219 #[.pointer (some ⟨g,0,none⟩)] w fun e w'=>e= .returned (.int .u8 (Gl bs at_ er:Nat))/\Cur w' g base bs A c (takeA bs at_ er 1) (BK bs at_ er 1)/\Kept (By g w) w w':=by
 have D:=JC w g base bs A c at_ er 1 j mw h;unfold JH at D;by_cases hc:er=0/\at_<bs.length
 ·have hO:Bu bs at_ er 1= [bs.getD at_ 0]:=by rw[hc.1,Jz,Aa mw,Dj hc.2,Am,Az hc.2];rfl
  have hV:Gl bs at_ er=bs.getD at_ 0:=Aa (by simp[hc.1]);rw[hO]at D;rw[hV];have D:=hid D;clear hO hV hc h;generalize bs.getD at_ 0=x at *;go_enter func219,ntmps219;go_wp2_with fail;refine D.out.mono ?_;rintro e w1 ⟨v,rfl,i,hc,hk⟩;obtain⟨g2,c2,hv,_⟩:=i.form oK;subst hv;have c0:=i.cellAt 0 oK;simp only[cZ,List.map_cons,List.map_nil]at c0;have HC:=hid hc;have HK:=hid hk;clear i hc hk D;go_wp2_with fail;go_ret;exact⟨rfl,HC.out,HK.out⟩
 ·have hO:Bu bs at_ er 1= []:=by
   by_cases he:er=0
   ·rw[he,Jz,Ab mw]
   ·exact Ab he
  have hV:Gl bs at_ er=0:=by
   unfold Gl;split
   ·rfl
   ·rw[Am,Ff mw];rfl
  rw[hO]at D;rw[hV];have D:=hid D;clear hO hV hc h;go_enter func219,ntmps219;go_wp2_with fail;refine D.out.mono ?_;rintro e w1 ⟨v,rfl,i,hc,hk⟩;obtain⟨A2,c2,rfl⟩:=bZ i;have HC:=hid hc;have HK:=hid hk;simp only[List.length_nil]at i;clear i hc hk D;go_wp2_with fail;go_ret;exact⟨rfl,HC.out,HK.out⟩
def AY(most:Nat)(bs:List Nat)(at_:Nat)(er:Int):Nat:=if er≠0 then 0 else(Bx most (bs.drop at_)).1
def zZ(most:Nat)(bs:List Nat)(at_:Nat)(er:Int):Nat:=if er≠0 then at_ else at_+(Bx most (bs.drop at_)).2.1
def AJ(most:Nat)(bs:List Nat)(at_:Nat)(er:Int):Int:=if er≠0 then er else(Bx most (bs.drop at_)).2.2
theorem dM(w:World)(g base mb ob:Nat)(bs:List Nat)(A:Option Addr)(c at_ most:Nat)(M:bs.length<=100000)(h8:∀x∈bs,x<=255)(y:most<=1000000000)(h:Cur w g base bs A c at_ 0)(J:Blk w mb 3 #[most])(i:Blk w ob 3 #[ij]):
 Calls prog 189 #[.slice (AQ A at_ c 1) (bs.length-at_) (c-at_), .pointer (some ⟨mb,0,none⟩), .pointer (some ⟨ob,0,none⟩)] w fun e w'=>∃ (k:Nat) (e2:Int),e= .returned (.tuple #[.int .i64 k,e2])/\k<=100000/\Cur w' g base bs A c at_ 0/\
  (Kept (fun x=>x≠ob) w w'/\k=(Bx most (bs.drop at_)).2.1/\e2=(Bx most (bs.drop at_)).2.2/\Blk w' ob 3 #[.int .i64 (Bx most (bs.drop at_)).1]):=by
 have d0:=J.ia 0;have f1:=i.frozen 0;have d1:=i.ia 0;have E:=Em h.own;have j:=EQ (own_row h.own) h.le E.2;have z:∀x∈bs.drop at_,x<=255:=fun x hx=>h8 x (BY hx);have D:=RU w (AQ A at_ c 1) (bs.length-at_) (c-at_) (bs.drop at_) most y (by rw[AO]) mw z j;have G:=G8 most (bs.drop at_) z;have hk:(Bx most (bs.drop at_)).2.1<=100000:=by have:=G.2.1;rw[AO]at this;omega
 generalize Bx most (bs.drop at_)=R at *;have L:=Blk.apart i h.blk ip;have D:=hid D;have H:=hid h;have HO:=hid i;generalize AQ A at_ c 1=A1 at *;clear j z G h i J E;go_enter func189,ntmps189;go_wp2_with fail;refine D.out.mono ?_;rintro e w1 ⟨rfl,rfl⟩;go_wp2_with fail;go_ret2;refine⟨R.2.1,R.2.2,rfl,hk,?_,(Kept.refl _ _).set (fun h=>h rfl) _,rfl,rfl,HO.out.set 0 _⟩;exact⟨H.out.blk.far (fun e=>L e.symm) _,BS H.out.own (gZ H.out.own HO.out ip) _,H.out.le,H.out.lo⟩
theorem ID(w:World)(g base:Nat)(bs:List Nat)(A:Option Addr)(c at_:Nat)(er:Int)(most:Nat)(ab:bs.length<=100000)(h8:∀x∈bs,x<=255)(U:most<=1000000000)(h:Cur w g base bs A c at_ er):
 Calls prog 112 #[.pointer (some ⟨g,0,none⟩),most] w fun e w'=>e= .returned (.int .i64 (AY most bs at_ er:Nat))/\Cur w' g base bs A c (zZ most bs at_ er) (AJ most bs at_ er)/\Kept (By g w) w w':=by
 have ai:=h.blk.lt;have h2:Cur ((w.alloc (.cells #[most] 3)).alloc (.cells #[ij] 3)) g base bs A c at_ er:=(h.step (aZ (Ag _ _))).step (aZ (Ag _ _));have J:Blk ((w.alloc (.cells #[most] 3)).alloc (.cells #[ij] 3)) w 3 #[most]:=(Blk.made _ _ _).alloc _;have N:Blk ((w.alloc (.cells #[most] 3)).alloc (.cells #[ij] 3)) (w.heap.size+1) 3 #[ij]:=Blk.made_at _ _ _ oK;have Q:Kept (fun x=>x<w.heap.size/\x≠g) w ((w.alloc (.cells #[most] 3)).alloc (.cells #[ij] 3)):=Kept.of_below (by(repeat (with_reducible first|exact Ag _ _|assumption|refine Ar ?_ |refine below_drewN ?_ _|refine sZ ?_ |refine aZ ?_ |refine dZ im ?_ |refine belA ?_ |refine tZ im ?_)):Below w w _) (fun x hx=>hx.1);have aj:=h.le;unfold By;by_cases he:er=0
 ·subst he;have af:∀M wx,(callFunc 189 M).run prog wx= .ok (.enter 189 M) wx:=by intro M wx;simp[callFunc,go_sem,func189];rfl
  have D:=fun w2 (hc2:Cur w2 g base bs A c at_ 0) (J:Blk w2 w 3 #[most]) (N:Blk w2 (w.heap.size+1) 3 #[ij])=>Mf w2 g base bs A c at_ hc2 ab 189 #[.pointer (some ⟨w,0,none⟩), .pointer (some ⟨w.heap.size+1,0,none⟩)]
   (fun k e2 w'=>Kept (fun x=>x≠w.heap.size+1) w2 w'/\k=(Bx most (bs.drop at_)).2.1/\e2=(Bx most (bs.drop at_)).2.2/\Blk w' (w.heap.size+1) 3 #[.int .i64 (Bx most (bs.drop at_)).1]) af
   (fun q=>(dM (w2.drewN q) g base w (w.heap.size+1) bs A c at_ most ab h8 U (hc2.drewN q) (J.drewN q) (N.drewN q)).mono fun e w' ⟨k,e2,h1,h2,h3,h4⟩=>⟨k,e2,h1,h2,h3,⟨⟨h4.1.os,h4.1.tape,h4.1.output,h4.1.size,h4.1.block⟩,h4.2⟩⟩)
  have D:=hid (D _ h2 J N);have ae:∀x∈bs.drop at_,x<=255:=fun x hx=>h8 x (BY hx);have Y:=G8 most (bs.drop at_) ae;rw[AO]at Y;have eV:AY most bs at_ 0=(Bx most (bs.drop at_)).1:=Aa oK;have eA:zZ most bs at_ 0=at_+(Bx most (bs.drop at_)).2.1:=Aa oK;have eE:AJ most bs at_ 0=(Bx most (bs.drop at_)).2.2:=Aa oK;rw[eV,eA,eE];generalize Bx most (bs.drop at_)=R at *;have HK:=hid Q;have ag:w.heap.size+1≠g:=mw
  have ac:=hid Y;clear af h2 J N Q ae Y eV eA eE;by_cases hR:R.2.2=0
  ·have ah:at_+R.2.1<=bs.length:=(by have:=ac.out.2.1;omega);go_enter func112,ntmps112;go_wp2_with fail;refine D.out.mono ?_;rintro e w4 ⟨k,e2,w3,⟨i,z,E,y⟩,L,j⟩;rcases j with ⟨h0,_,_⟩|⟨_,rfl,rfl⟩
   ·exact absurd (E.trans hR) h0
   ·have G:Hid (Kept (fun x=>x<w.heap.size/\x≠g) w w3):=HK.out.trans ⟨i.os,i.tape,i.output,i.size,fun x hx=>i.block x mw⟩;have hB:=y.far (fun e=>ag e) (p:=⟨g,1,none⟩) (.int .i64 (at_+k:Nat));have d0:=hB.ia 0;have HC:=hid (L.setAt (at_+k) mw);rw[z]at HC;have Z:Hid (Kept (fun x=>x<w.heap.size/\x≠g) w (w3.setCell ⟨g,1,none⟩ (.int .i64 (at_+k:Nat)))):=G.out.set (fun h=>h.2 rfl) _;rw[<-z]at HC;have aa:Hid (Cur (w3.setCell ⟨g,1,none⟩ (.int .i64 (at_+k:Nat))) g base bs A c (at_+R.2.1) R.2.2):=nJ;generalize w3.setCell ⟨g,1,none⟩ (.int .i64 (at_+k:Nat))=w5 at *;clear hB y L i D G HK z E HC hR;go_wp2_with fail;go_ret;exact⟨rfl,aa.out,Z.out⟩
  ·have hz:=ac.out.2.2.2.1 hR;go_enter func112,ntmps112;go_wp2_with fail;refine D.out.mono ?_;rintro e w4 ⟨k,e2,w3,⟨i,z,E,y⟩,L,j⟩;rcases j with ⟨_,rfl,rfl⟩|⟨h0,_,_⟩
   ·have G:Hid (Kept (fun x=>x<w.heap.size/\x≠g) w w3):=HK.out.trans ⟨i.os,i.tape,i.output,i.size,fun x hx=>i.block x mw⟩;have aa:Hid (Cur (w3.setCell ⟨g,2,none⟩ (.int .i64 e2)) g base bs A c (at_+R.2.1) R.2.2):=(by rw[hz.2,<-E];exact L.setErr e2);have Z:Hid (Kept (fun x=>x<w.heap.size/\x≠g) w (w3.setCell ⟨g,2,none⟩ (.int .i64 e2))):=G.out.set (fun h=>h.2 rfl) _;generalize w3.setCell ⟨g,2,none⟩ (.int .i64 e2)=w5 at *;have HZ:=hid hz.1;clear y L i D G HK z E hR hz;go_wp2_with fail;go_ret;exact⟨by rw[HZ.out];rfl,aa.out,Z.out⟩
   ·exact absurd (E.symm.trans h0) hR
 ·have D:=hid (L9 _ g base bs A c at_ er h2 he (.func (.func 189) #[] #[.pointer (some ⟨w,0,none⟩), .pointer (some ⟨w.heap.size+1,0,none⟩)]));have eV:AY most bs at_ er=0:=Ab he;have eA:zZ most bs at_ er=at_:=Ab he;have eE:AJ most bs at_ er=er:=Ab he;rw[eV,eA,eE];have HK:=hid Q;have HC:=hid h2;clear h2 J N Q he eV eA eE;go_enter func112,ntmps112;go_wp2_with fail;refine D.out.mono ?_;rintro e w4 ⟨rfl,rfl⟩;go_wp2_with fail;go_ret;exact⟨rfl,HC.out,HK.out⟩
end Nums
namespace Nums
open Go.RowKit Mem Own Canon
theorem N7{P:Program}{j:Array Oper}{o:Oper}{a:Act}{K:Act->World->Prop}{Q:Exit->Act->World->Prop}{E:Prop}(y:o.guard=none)(s x:Operand)(t:TypeId)
 (ho:o.op= .call {callee:= .builtin .append,args:=#[s,x],argTypes:=#[t,t] })
 (base:Nat)(e:TypeId)(i:TypeInfo)(z:Value)(size bytes:Nat)(ht:P.underlying t=some (.slice e))(hi:P.info? e=some i)(hz:i.zero=some z)
 (hsize:i.size=size)(hby:i.bytes=bytes)(hzs:z.cells.size=size)(hsz:0<size)
 (v:Value)(n:Nat)(xs:List Value)(hs:a.eval s=v)(hown:w.ownsRow base e size v n xs)
 (A:Option Addr)(m c:Nat)(news:List Value)(hx:a.eval x= .slice A m c)(hsrc:Src w A m c size news)(h1:∀u∈news,u.oneCell'=true)
 (h63:n+m<=maxLen)(hbytes:(n+m)*bytes<=140737488355328)(hbase:base<=w.heap.size)
 (h:∀A' c' w',w'.ownsRow base e size (.slice A' (n+m) c') (n+m) (xs++news)->w.grownBy w' v.ownBlock->K (a.put o.dst (.slice A' (n+m) c')) w'):
 if Region.wanted o (yielded j a.tmps)=true then Oper.wp P o a w K Q else E:=by
 have hw:Region.wanted o (yielded j a.tmps)=true:=by simp[Region.wanted,y]
 rw[Ab hw];obtain⟨v',w',hr,h2,h3,h5⟩:=Ld (P:=P) w base t o.type e i z size bytes ht hi hz hsize hby hzs hsz v n xs hown A m c news hsrc h1 h63 hbytes hbase;obtain⟨A',c',rfl⟩:=bZ h2;unfold Oper.wp execOp;simp only[ho,resolve,invoke,builtin,Sem.run_bind,Sem.run_pure,Result.andThen_ok,List.map_toArray,List.map_cons,List.map_nil,hs,hx,hr];exact h A' c' w' h2 h3
end Nums
namespace Nums
open Go.RowKit Mem Own Canon
def G5(bs:List Nat)(at_:Nat)(er:Int):Nat:=if er≠0 then 0 else(Bg (bs.drop at_) 0 0).1
def Ip(bs:List Nat)(at_:Nat)(er:Int):Nat:=if er≠0 then at_ else at_+(Bg (bs.drop at_) 0 0).2.1
def Im(bs:List Nat)(at_:Nat)(er:Int):Int:=if er≠0 then er else(Bg (bs.drop at_) 0 0).2.2
end Nums
namespace Body
open Go.RowKit Mem Own Canon Nums
theorem cD(w:World)(gb base n c:Nat)(A:Option Addr)(xs:List Value)(hc:w.cell? ⟨gb,0,none⟩=some (.slice A n c))(i:n<=3000000)(ho:w.ownsRow base 3 1 (.slice A n c) n xs)(h:∀u∈xs,u.oneCell'=true):
 Calls prog 15 #[.pointer (some ⟨gb,0,none⟩)] w fun e w'=>∃v,e= .returned v/\w'.ownsRow w 3 1 v n xs/\Below w w w':=by
 have D:=hid (VV w base A n c xs i ho h);clear ho h;go_enter func15,ntmps15;go_wp2_with fail;refine D.out.mono ?_;rintro e w1 ⟨v,rfl,ho,hb⟩;obtain⟨A1,c1,rfl⟩:=bZ ho;have HO:=hid ho;have HB:=hid hb;clear ho hb D;go_wp2_with fail;go_ret;exact⟨_,rfl,HO.out,HB.out⟩
end Body
end Go.Proofs.YtfgdoknipbpfhaaGreatDoor
