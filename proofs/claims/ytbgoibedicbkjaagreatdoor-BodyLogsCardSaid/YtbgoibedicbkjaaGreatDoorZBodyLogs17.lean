/- The walks of nums.sc -/
import Derived.Test.YtbgoibedicbkjaaGreatDoorZBodyLogs3
import Derived.Laws.Bits64b
import Derived.Laws.EntriesVeiled
import Derived.Deep.AppendLies
namespace Go.Proofs.YtbgoibedicbkjaaGreatDoor
open Go.Lib (hid)
set_option maxHeartbeats 1000000
set_option maxRecDepth 100000
namespace Nums
open Go.RowKit Mem Own Canon
def Ba:List Nat->Nat->Nat->Nat×Nat×Int
 | [],_,_=>(0,0,1)
 |c :: t,i,x=>if(i=9/\c≠1)∨(0<i/\c=0)then(0,0,2)else if c<128 then(x+c % 128*2 ^ (7*i),i+1,0)else Ba t (i+1) (x+c % 128*2 ^ (7*i))
theorem Gv:∀ (l:List Nat) (i x:Nat),(∀c∈l,c<=255)->i<=9->x<2 ^ (7*i)->(Ba l i x).1<18446744073709551616/\(Ba l i x).2.1<=l.length+i/\((Ba l i x).2.2=0->i<(Ba l i x).2.1)/\((Ba l i x).2.2≠0->(Ba l i x).1=0/\(Ba l i x).2.1=0)/\0<=(Ba l i x).2.2/\(Ba l i x).2.2<=2
 | [],i,x,_,_,_=>by simp[Ba]
 |c :: t,i,x,h8,hi,hx=>by
  have hc:=h8 c (by simp);rw[Ba];have hp:2 ^ (7*(i+1))=128*2 ^ (7*i):=by rw[show 7*(i+1)=7*i+7 by omega,Nat.pow_add];omega
  by_cases h1:(i=9/\c≠1)∨(0<i/\c=0)
  ·rw[Ab h1];simp
  ·rw[Aa h1];have hb:x+c % 128*2 ^ (7*i)<2 ^ (7*(i+1)):=(by rw[hp];have:c % 128*2 ^ (7*i)<=127*2 ^ (7*i):=EN _ (by omega);omega);by_cases h2:c<128
   ·rw[Ab h2];refine⟨?_,by simp;omega,fun _=>by simp,fun h=>absurd rfl h,by simp,by simp⟩;by_cases h9:i=9
    ·subst h9;have:c=1:=(by omega);subst this;have:x<2 ^ 63:=hx;simp;omega
    ·have y:2 ^ (7*(i+1))<=2 ^ 63:=Bu (by omega) (by omega);show x+c % 128*2 ^ (7*i)<_;omega
   ·rw[Aa h2];have j:i≠9:=(by omega);have ih:=Gv t (i+1) _ (fun d hd=>h8 d (by simp[hd])) (by omega) hb;refine⟨ih.1,by have:=ih.2.1;simp;omega,fun h=>by have:=ih.2.2.1 h;omega,ih.2.2.2⟩
theorem Oa{x t i:Nat}(hx:x<2 ^ i)(h:x+t*2 ^ i<18446744073709551616):bits .or .u64 (x:Int) ((t*2 ^ i:Nat):Int)=((x+t*2 ^ i:Nat):Int):=by rw[bits_or_u64_nat x _ (by omega) (by omega),Nat.mul_comm t,Nat.or_comm,<-Nat.two_pow_add_eq_or_of_lt hx];congr 1;omega
theorem NV(w:World)(A:Option Addr)(n c:Nat)(ls:List Nat)(hn:ls.length=n)(hN:n<=100000)(h8:∀x∈ls,x<=255)(ha:Row w w.heap.size A n 1 (iZ .u8 ls)):
 Calls Tryz.prog 188 #[.slice A n c] w fun e w'=>e= .returned (.tuple #[.int .u64 (Ba ls 0 0).1, .int .i64 (Ba ls 0 0).2.1, .int .i64 (Ba ls 0 0).2.2])/\w'=w:=by
 have HA:=hid ha;have HN:=hid hn;have H8:=hid h8;clear ha hn h8;obtain⟨R,hR⟩:∃R,R=Ba ls 0 0:=⟨_,rfl⟩;rw[<-hR];have HR:=hid hR;clear hR;go_enter Tryz.func188,Tryz.ntmps188;go_wp2_with fail;go_loopw [2,9] (fun xv i wx=>∃k x:Nat,k<=n/\k<=9/\xv= .int .u64 x/\i= .int .i64 k/\Hid (x<2 ^ (7*k))/\Hid (Ba (ls.drop k) k x=R)/\wx=w) (fun _ i _=>n-(intOf i).toNat)
 case atStart=>exact⟨0,0,by omega,by omega,rfl,rfl,by show _<_;simp,HR.out.symm,rfl⟩
 case round=>
  obtain⟨k,x,hk,ak,rfl,rfl,hx,hS,rfl⟩:=hrel;by_cases ac:k<n
  ·obtain⟨b,aj,y,rfl,hb,hy,hc⟩:=Ci HA.out HN.out ac;have J:k<ls.length:=(by rw[HN.out];exact ac);have ai:y<=255:=H8.out y (BF hy);have hs:=hS.out;rw[CC J,Ba]at hs;rw[AD J]at hy;injection hy with hy;rw[hy]at hs;have y0:(0:Int)<=(k:Int):=(by omega);have y1:(k:Int)<(n:Int):=(by omega);by_cases h9:k=9/\y≠1
   ·rw[Ab (.inl h9)]at hs;have g1:((k:Int)==9)=true:=(by simp;omega);have g2:((y:Int) != 1)=true:=(by simp;omega);have HS:=hid hs;clear hs hS hx h9 hy J;go_wp2_with fail
    go_ret3
    exact⟨by rw[<-HS.out];rfl,rfl⟩
   ·by_cases h0:0<k/\y=0
    ·rw[Ab (.inr h0)]at hs;have g1:((k:Int)==9)=false:=(by rw[Fj];intro h;simp at h;omega);have g3:decide (0<k)=true:=(by simp;omega);have g4:((y:Int)==0)=true:=(by simp;omega);have HS:=hid hs;clear hs hS hx h9 h0 hy J;go_wp2_with fail
     go_ret3
     exact⟨by rw[<-HS.out];rfl,rfl⟩
    ·rw[Aa (by omega)]at hs;have N:=hx.out;obtain⟨E,hE⟩:∃E,E=7*k:=⟨_,rfl⟩;rw[<-hE]at hs N;obtain⟨c7,Y⟩:∃c7,c7=y % 128:=⟨_,rfl⟩;rw[<-Y]at hs;obtain⟨x2,Q⟩:∃x2,x2=x+c7*2 ^ E:=⟨_,rfl⟩;have ae:2 ^ E<=2 ^ 63:=Bu (by omega) (by omega);have aa:c7*2 ^ E<=127*2 ^ E:=EN _ (by omega)
     have U:x+c7*2 ^ E<18446744073709551616:=by
      by_cases j:k=9
      ·have:y=1:=(by omega);have e7:c7=1:=(by omega);have ag:E=63:=(by omega);subst ag;rw[e7];have:x<2 ^ 63:=N;omega
      ·have:2 ^ E<=2 ^ 56:=Bu (by omega) (by omega);omega
     obtain⟨t2,Z⟩:∃t2,t2=c7*2 ^ E:=⟨_,rfl⟩;have s1:IntKind.i64.wrap (7*(k:Int))=(E:Int):=by rw[Ak _ (by omega)];omega
     have e1:bits .andNot .u8 (y:Int) 128=(c7:Int):=(by have h:=u8_andNot_nat y 128 (by omega) (by omega);rw[show(255-128)=2 ^ 7-1 from rfl,LG]at h;rw[Y];exact h);have s2:IntKind.u64.wrap (c7:Int)=(c7:Int):=(by rw[Br];omega);have s3:IntKind.u64.wrap ((c7:Int)*2 ^ E)=(t2:Int):=(by rw[Br,Z];have:((c7:Int)*2 ^ E)=((c7*2 ^ E:Nat):Int):=(by push_cast;rfl);rw[this];omega);have e2:bits .or .u64 (x:Int) (t2:Int)=(x2:Int):=(by rw[Z,Oa N U,Q]);rw[<-Q]at hs;have z0:(0:Int)<=(E:Int):=(by omega);have z1:(E:Int)<=64:=(by omega);have ab:x2<2 ^ (7*(k+1)):=(by rw[Q,show 7*(k+1)=E+7 by omega,Nat.pow_add];omega);have HP:=hid ab;have HS:=hid hs;have H9:Hid (k=9->y=1):=fun h=>by omega
     have af:((k:Int)==9&&(y:Int) != 1)=false∨True:= .inr trivial;clear hs hS hx N hy J Q Z Y ae aa U hE ab af;have M:=HS;by_cases z:y<128
     ·have g5:decide ((y:Int)<128)=true:=(by simp;omega);have g6:decide (y<128)=true:=(by simp;omega);have hs:=HS.out;rw[Ab z]at hs;have G:=hid hs;have s5:IntKind.i64.wrap ((k:Int)+1)=(k:Int)+1:=(by rw[Ak _ (by omega)]);clear hs HS M z;by_cases j:k=9
      ·have g1:((k:Int)==9)=true:=(by simp;omega);have g2:((y:Int) != 1)=false:=(by have:=H9.out j;subst this;rfl);have g3:decide (0<k)=true:=(by simp;omega);have g4:((y:Int)==0)=false:=(by have:=H9.out j;subst this;rfl);clear j h9 h0;go_wp2_with fail
       go_ret3
       exact⟨by rw[<-G.out];rfl,rfl⟩
      ·have g1:((k:Int)==9)=false:=(by rw[Fj];intro h;simp at h;omega);by_cases L:k=0
       ·have g3:decide (0<k)=false:=(by simp;omega);clear j L h9 h0;go_wp2_with fail
        go_ret3
        exact⟨by rw[<-G.out];rfl,rfl⟩
       ·have g3:decide (0<k)=true:=(by simp;omega);have g4:((y:Int)==0)=false:=(by rw[Fj];intro h;simp at h;omega);clear j L h9 h0;go_wp2_with fail
        go_ret3
        exact⟨by rw[<-G.out];rfl,rfl⟩
     ·have g5:decide ((y:Int)<128)=false:=(by simp;omega);have g6:decide (y<128)=false:=(by simp;omega);have hs:=HS.out;rw[Aa z]at hs;have G:=hid hs;have ah:k≠9:=fun h=>by have:=H9.out h;omega
      clear hs HS M z;by_cases j:k=9
      ·have g1:((k:Int)==9)=true:=(by simp;omega);have g2:((y:Int) != 1)=false:=(by have:=H9.out j;subst this;rfl);have g3:decide (0<k)=true:=(by simp;omega);have g4:((y:Int)==0)=false:=(by have:=H9.out j;subst this;rfl);clear j h9 h0;go_wp2_with fail;go_roundw
       case measure=>go_light;simp[intOf];omega
       case rel=>go_light;exact⟨k+1,x2,by omega,by omega,by first|rfl|trivial,by go_num,HP.out,G.out,by first|rfl|trivial⟩
      ·have g1:((k:Int)==9)=false:=(by rw[Fj];intro h;simp at h;omega);by_cases L:k=0
       ·have g3:decide (0<k)=false:=(by simp;omega);clear j L h9 h0;go_wp2_with fail;go_roundw
        case measure=>go_light;simp[intOf];omega
        case rel=>go_light;exact⟨k+1,x2,by omega,by omega,by first|rfl|trivial,by go_num,HP.out,G.out,by first|rfl|trivial⟩
       ·have g3:decide (0<k)=true:=(by simp;omega);have g4:((y:Int)==0)=false:=(by rw[Fj];intro h;simp at h;omega);clear j L h9 h0;go_wp2_with fail;go_roundw
        case measure=>go_light;simp[intOf];omega
        case rel=>go_light;exact⟨k+1,x2,by omega,by omega,by first|rfl|trivial,by go_num,HP.out,G.out,by first|rfl|trivial⟩
  ·obtain rfl:k=n:=by omega
   have hs:=hS.out;rw[Ce (by rw[HN.out];exact Aj _),Ba]at hs;have HS:=hid hs;clear hs hS hx;go_wp2_with fail
   go_ret3
   exact⟨by rw[<-HS.out];rfl,rfl⟩
end Nums
namespace Nums
open Go.RowKit Mem Own Canon
theorem numL_get{k:IntKind}{ls:List Nat}{i:Nat}(h:i<ls.length):(cZ k ls)[i*1+0]? =some (iZ k ls i 0):=by simp[cZ,iZ,List.getD_eq_getElem?_getD,h]
theorem own_row{w:World}{base c:Nat}{A:Option Addr}{ls:List Nat}(h:w.ownsRow base 5 1 (.slice A ls.length c) ls.length (cZ .u8 ls)):Row w w.heap.size A ls.length 1 (iZ .u8 ls):=
 Row.of_own h rfl fun i j hi hj=>by
  obtain rfl:j=0:=by omega
  exact numL_get hi
theorem GC{w:World}{base n c:Nat}{A:Option Addr}{xs:List Value}(h:w.ownsRow base 5 1 (.slice A n c) n xs):A=none->n=0/\c=0:=(CQ h).1
theorem Ul{w:World}{base n c:Nat}{A:Option Addr}{xs:List Value}(h:w.ownsRow base 5 1 (.slice A n c) n xs):∀a,A=some a->a.add 0=a:=by
 intro a ha;subst ha;rcases h.2 with ⟨hv,_⟩|⟨g,i,cur,hv,_⟩
 ·cases hv
 ·injection hv with e1 e2 e3;injection e1 with e1;subst e1;exact EY g 0 0
def Bf(most:Nat)(ls:List Nat):Nat×Nat×Int:=
 if(Ba ls 0 0).2.2≠0 then(0,0,(Ba ls 0 0).2.2)else if most<(Ba ls 0 0).1 then(0,0,6)else Ba ls 0 0
theorem EZ(most:Nat)(ls:List Nat)(h8:∀c∈ls,c<=255):(Bf most ls).1<=most/\(Bf most ls).2.1<=ls.length/\((Bf most ls).2.2=0->1<=(Bf most ls).2.1)/\((Bf most ls).2.2≠0->(Bf most ls).1=0/\(Bf most ls).2.1=0)/\0<=(Bf most ls).2.2/\(Bf most ls).2.2<=6:=by
 have h:=Gv ls 0 0 h8 (by omega) (by simp);unfold Bf;split
 ·rename_i he;exact⟨by simp,by simp,fun h0=>absurd h0 he,fun _=>⟨rfl,rfl⟩,h.2.2.2.2.1,by have:=h.2.2.2.2.2;show(Ba ls 0 0).2.2<=6;omega⟩
 ·rename_i he;split
  ·exact⟨by simp,by simp,fun h0=>absurd h0 (by decide),fun _=>⟨rfl,rfl⟩,by simp,by simp⟩
  ·exact⟨by omega,by have:=h.2.1;omega,fun h0=>by have:=h.2.2.1 h0;omega,h.2.2.2.1,h.2.2.2.2.1,by have:=h.2.2.2.2.2;omega⟩
theorem OT(w:World)(A:Option Addr)(n c:Nat)(ls:List Nat)(most:Nat)(h:most<=1000000000)(hn:ls.length=n)(hN:n<=100000)(h8:∀x∈ls,x<=255)(ha:Row w w.heap.size A n 1 (iZ .u8 ls)):
 Calls Tryz.prog 140 #[.slice A n c, .int .i64 most] w fun e w'=>e= .returned (.tuple #[.int .i64 (Bf most ls).1, .int .i64 (Bf most ls).2.1, .int .i64 (Bf most ls).2.2])/\w'=w:=by
 have D:=NV w A n c ls hn hN h8 ha;have hs:=Gv ls 0 0 h8 (by omega) (by simp);unfold Bf;clear hn h8 ha;generalize Ba ls 0 0=R at *;obtain⟨x,k,er⟩:=R;simp only at hs D ⊢;have hx:=hs.1;have D:=hid D;have s1:IntKind.u64.wrap (most:Int)=(most:Int):=by rw[Br];omega
 by_cases he:er=0
 ·subst he;rw[Aa (by simp)];by_cases hm:most<x
  ·rw[Ab hm];have g1:decide ((most:Int)<(x:Int))=true:=(by simp;omega);have g2:decide (most<x)=true:=(by simp;omega);clear hs hm;go_enter Tryz.func140,Tryz.ntmps140;go_wp2_with fail;refine D.out.mono ?_;rintro e w1 ⟨rfl,rfl⟩;go_wp2_with fail
   go_ret3
   exact⟨rfl,rfl⟩
  ·rw[Aa hm];have g1:decide ((most:Int)<(x:Int))=false:=(by simp;omega);have g2:decide (most<x)=false:=(by simp;omega);have s2:IntKind.i64.wrap (x:Int)=(x:Int):=(by rw[Ak _ (by omega)]);clear hs hm;go_enter Tryz.func140,Tryz.ntmps140;go_wp2_with fail;refine D.out.mono ?_;rintro e w1 ⟨rfl,rfl⟩;go_wp2_with fail
   go_ret3
   exact⟨rfl,rfl⟩
 ·rw[Ab he];have g1:(er != 0)=true:=by simpa using he
  clear hs he;go_enter Tryz.func140,Tryz.ntmps140;go_wp2_with fail;refine D.out.mono ?_;rintro e w1 ⟨rfl,rfl⟩;go_wp2_with fail
  go_ret3
  exact⟨rfl,rfl⟩
structure Cur (w:World) (g base:Nat) (bs:List Nat) (A:Option Addr) (c at_:Nat) (er:Int):Prop where
 blk:Blk w g 136 #[.slice A bs.length c, .int .i64 at_, .int .i64 er]
 own:w.ownsRow base 5 1 (.slice A bs.length c) bs.length (cZ .u8 bs)
 le:at_<=bs.length
 lo:base<=g
section
variable {w w':World} {g base:Nat} {bs:List Nat} {A:Option Addr} {c at_:Nat} {er:Int}
theorem Cur.drew(h:Cur w g base bs A c at_ er):Cur w.drew g base bs A c at_ er:=⟨h.blk,h.own,h.le,h.lo⟩
theorem Cur.drewN(h:Cur w g base bs A c at_ er)(q:Nat):Cur (w.drewN q) g base bs A c at_ er:=⟨h.blk,h.own,h.le,h.lo⟩
theorem Cur.step(h:Cur w g base bs A c at_ er)(hb:Below w.heap.size w w'):Cur w' g base bs A c at_ er:=
 ⟨h.blk.step hb,dZ h.own (fun x hx=>hb.block x (Ae h.own x hx).2),h.le,h.lo⟩
theorem Cur.cells(h:Cur w g base bs A c at_ er):w.cell? ⟨g,0,none⟩=some (.slice A bs.length c)/\w.cell? ⟨g,1,none⟩=some (.int .i64 at_)/\w.cell? ⟨g,2,none⟩=some (.int .i64 er):=⟨h.blk.cell 0,h.blk.cell 1,h.blk.cell 2⟩
theorem Cur.setErr(h:Cur w g base bs A c at_ er)(e2:Int):Cur (w.setCell ⟨g,2,none⟩ (.int .i64 e2)) g base bs A c at_ e2:=
 ⟨h.blk.set 2 _,dZ h.own (fun x hx=>AK w _ _ x (fun e=>fZ h.own h.blk (by decide) (hx.trans (AJ some e)))),h.le,h.lo⟩
theorem Cur.setAt(h:Cur w g base bs A c at_ er)(i:Nat)(h2:i<=bs.length):Cur (w.setCell ⟨g,1,none⟩ (.int .i64 i)) g base bs A c i er:=
 ⟨h.blk.set 1 _,dZ h.own (fun x hx=>AK w _ _ x (fun e=>fZ h.own h.blk (by decide) (hx.trans (AJ some e)))),h2,h.lo⟩
end
theorem new_any(w:World)(A:Option Addr)(n c:Nat)(ls:List Nat)(hn:ls.length=n)(y:n<=100000)(j:A=none->n=0/\c=0)(ha:Row w w.heap.size A n 1 (iZ .u8 ls)):
 Calls Tryz.prog 34 #[.slice A n c] w fun e w'=>∃g B d,e= .returned (.pointer (some ⟨g,0,none⟩))/\Cur w' g w.heap.size ls B d 0 0/\Below w.heap.size w w':=by
 have D:=hid (GY w A n c ls hn y j ha);have HN:=hid hn;clear hn j ha;go_enter Tryz.func34,Tryz.ntmps34;go_wp2_with fail;refine D.out.mono ?_;rintro e w1 ⟨v,rfl,i,hb⟩;obtain⟨B,d,rfl⟩:=aZ i;have hz:=hb.size;have HO:=hid i;have HB:=hid hb;clear i hb D;go_wp2_with fail;go_ret;refine⟨w1.heap.size,B,d,rfl,⟨?_,?_,AY _,hz⟩,kZ hz HB.out⟩
 ·rw[HN.out];exact Blk.made _ _ _
 ·have h:=HO.out.alloc (.cells #[.slice B n d, .int .i64 0, .int .i64 0] 136);rw[HN.out];exact h
theorem CI(w:World)(g base:Nat)(bs:List Nat)(A:Option Addr)(c at_:Nat)(er:Int)(h:Cur w g base bs A c at_ er):
 Calls Tryz.prog 89 #[.pointer (some ⟨g,0,none⟩)] w fun e w'=>e= .returned (.int .i64 er)/\w'=w:=by
 obtain⟨d0,d1,d2⟩:=h.cells;clear h;go_enter Tryz.func89,Tryz.ntmps89;go_wp2_with fail;go_ret;exact⟨rfl,rfl⟩
theorem IT(w:World)(g base:Nat)(bs:List Nat)(A:Option Addr)(c at_:Nat)(er:Int)(h:Cur w g base bs A c at_ er):
 Calls Tryz.prog 90 #[.pointer (some ⟨g,0,none⟩)] w fun e w'=>e= .returned (.int .i64 at_)/\w'=w:=by
 obtain⟨d0,d1,d2⟩:=h.cells;clear h;go_enter Tryz.func90,Tryz.ntmps90;go_wp2_with fail;go_ret;exact⟨rfl,rfl⟩
def Dv(er e2:Int):Int:=if er=0 then e2 else er
theorem FT(w:World)(g base:Nat)(bs:List Nat)(A:Option Addr)(c at_:Nat)(er e2:Int)(h:Cur w g base bs A c at_ er):
 Calls Tryz.prog 88 #[.pointer (some ⟨g,0,none⟩), .int .i64 e2] w fun e w'=>e= .returned (.tuple #[])/\Cur w' g base bs A c at_ (Dv er e2)/\Kept (fun x=>x≠g) w w':=by
 obtain⟨d0,d1,d2⟩:=h.cells;have f2:=h.blk.frozen 2;have H:=hid h;clear h;unfold Dv;by_cases he:er=0
 ·subst he;rw[Ab rfl];go_enter Tryz.func88,Tryz.ntmps88;go_wp2_with fail;refine bodyPost_end (Ds rfl _ _ _) rfl ?_;exact⟨rfl,H.out.setErr e2,(Kept.refl _ _).set (fun h=>h rfl) _⟩
 ·rw[Aa he];have g1:(er==0)=false:=by simpa using he
  clear he;go_enter Tryz.func88,Tryz.ntmps88;go_wp2_with fail;refine bodyPost_end (Ds rfl _ _ _) rfl ?_;exact⟨rfl,H.out,Kept.refl _ _⟩
theorem rest_any(w:World)(g base:Nat)(bs:List Nat)(A:Option Addr)(c at_:Nat)(er:Int)(h:Cur w g base bs A c at_ er):
 Calls Tryz.prog 187 #[.pointer (some ⟨g,0,none⟩)] w fun e w'=>e= .returned (.slice (vZ A at_ c 1) (bs.length-at_) (c-at_))/\∃q,w'=w.drewN q:=by
 obtain⟨d0,d1,d2⟩:=h.cells;have kc:=fun wx=>EG (P:=Tryz.prog) (t:=22) (s:=1) Tryz.underlying22 (fun _=>by kernel_rfl) A bs.length c .i64 (at_:Int) at_ rfl h.le wx;generalize bs.length=n at *;clear h;go_enter Tryz.func187,Tryz.ntmps187;go_wp2_with fail;go_quiet (fail);go_wp2_with fail;go_ret;exact⟨rfl,_,rfl⟩
end Nums
namespace Nums
open Go.RowKit Mem Own Canon
open Go.Proofs.YtbgoibedicbkjaaGreatDoor.Crc (Ct Du Dx)
theorem wZ{w:World}{base s n:Nat}{e:TypeId}{v:Value}{xs:List Value}{p:Addr}(h:w.ownsRow base e s v n xs)(hr:v.ownBlock≠some p.block)(u:Value):(w.setCell p u).ownsRow base e s v n xs:=
 dZ h fun b hb=>AK w p u b (fun e=>hr (hb.trans (AJ some e)))
def uZ(g:Nat)(w:World)(x:Nat):Prop:=x<w.heap.size/\x≠g
theorem Lf(w:World)(g base:Nat)(bs:List Nat)(A:Option Addr)(c at_:Nat)(er:Int)(h:Cur w g base bs A c at_ er)(he:er≠0)(u:Value):
 Calls Tryz.prog 137 #[.pointer (some ⟨g,0,none⟩),u] w fun e w'=>e= .returned (.bool false)/\w'=w:=by
 have D:=hid (CI w g base bs A c at_ er h);have g1:(er != 0)=true:=by simpa using he
 clear h he;go_enter Tryz.func137,Tryz.ntmps137;go_wp2_with fail;refine D.out.mono ?_;rintro e w1 ⟨rfl,rfl⟩;go_wp2_with fail;go_ret;exact⟨rfl,rfl⟩
theorem Kf(w:World)(g base:Nat)(bs:List Nat)(A:Option Addr)(c at_:Nat)(h:Cur w g base bs A c at_ 0)(j:bs.length<=100000)(K:Nat)(i:Array Value)(R:Nat->Int->World->Prop)
 (hK:∀args wx,(callFunc K args).run Tryz.prog wx= .ok (.enter K args) wx)
 (hs:∀q,Calls Tryz.prog K (#[.slice (vZ A at_ c 1) (bs.length-at_) (c-at_)]++i) (w.drewN q) fun e w'=>∃ (k:Nat) (e2:Int),e= .returned (.tuple #[.int .i64 k, .int .i64 e2])/\k<=100000/\Cur w' g base bs A c at_ 0/\R k e2 w'):
 Calls Tryz.prog 137 #[.pointer (some ⟨g,0,none⟩), .func (.func K) #[] i] w fun e w'=>∃ (k:Nat) (e2:Int) (w2:World),R k e2 w2/\Cur w2 g base bs A c at_ 0/\
  ((e2≠0/\e= .returned (.bool false)/\w'=w2.setCell ⟨g,2,none⟩ (.int .i64 e2))∨(e2=0/\e= .returned (.bool true)/\w'=w2.setCell ⟨g,1,none⟩ (.int .i64 (at_+k:Nat)))):=by
 have D:=hid (CI w g base bs A c at_ 0 h);have D2:=hid (rest_any w g base bs A c at_ 0 h);have y:=h.le;have HS:=hid hs;clear h hs;go_enter Tryz.func137,Tryz.ntmps137;go_wp2_with fail;refine D.out.mono ?_;rintro e w1 ⟨rfl,rfl⟩;go_wp2_with fail;refine D2.out.mono ?_;rintro e w2 ⟨rfl,q,rfl⟩;go_wp2_with fail;refine(HS.out q).mono ?_;rintro e w3 ⟨k,e2,rfl,hk,hc,hR⟩;obtain⟨d0,d1,d2⟩:=hc.cells;have f1:=hc.blk.frozen 1;have f2:=hc.blk.frozen 2;have HC:=hid hc;have HR:=hid hR;clear hc hR D D2 HS;by_cases he:e2=0
 ·subst he;have s1:IntKind.i64.wrap ((at_:Int)+(k:Int))=((at_+k:Nat):Int):=by rw[Ak _ (by omega)];omega
  go_wp2_with fail;go_ret;exact⟨k,0,w3,HR.out,HC.out, .inr ⟨rfl,rfl,by simp⟩⟩
 ·have g1:(e2 != 0)=true:=by simpa using he
  have HE:=hid he;clear he;go_wp2_with fail;go_ret;exact⟨k,e2,w3,HR.out,HC.out, .inl ⟨HE.out,rfl,rfl⟩⟩
def AW(bs:List Nat)(at_:Nat)(er:Int)(n:Nat):List Nat:=if er≠0 then []else if bs.length-at_<n then []else(bs.drop at_).take n
def takeA(bs:List Nat)(at_:Nat)(er:Int)(n:Nat):Nat:=if er≠0 then at_ else if bs.length-at_<n then at_ else at_+n
def Be(bs:List Nat)(at_:Nat)(er:Int)(n:Nat):Int:=if er≠0 then er else if bs.length-at_<n then 1 else 0
def I5(w:World)(g base:Nat)(bs:List Nat)(A:Option Addr)(c at_:Nat)(er:Int)(n:Nat)(e:Ending)(w':World):Prop:=
 ∃v,e= .returned v/\w'.ownsRow w.heap.size 5 1 v (AW bs at_ er n).length (cZ .u8 (AW bs at_ er n))/\Cur w' g base bs A c (takeA bs at_ er n) (Be bs at_ er n)/\Kept (uZ g w) w w'
def JA(w:World)(g ob:Nat)(bs:List Nat)(at_ n:Nat)(k:Nat)(e2:Int)(w':World):Prop:=
 Kept (fun x=>x<w.heap.size/\x≠g/\x≠ob) w w'/\(k:Int)=(if bs.length-at_<n then 0 else n)/\e2=(if bs.length-at_<n then 1 else 0)/\
  ∃v,Blk w' ob 22 #[v]/\w'.ownsRow w.heap.size 5 1 v (AW bs at_ 0 n).length (cZ .u8 (AW bs at_ 0 n))
theorem SY(w:World)(g base nb ob:Nat)(bs:List Nat)(A:Option Addr)(c at_ n:Nat)(ah:bs.length<=100000)(hn:n<=1000000000)(h:Cur w g base bs A c at_ 0)(M:Blk w nb 3 #[.int .i64 n])(y:Blk w ob 22 #[.slice none 0 0]):
 Calls Tryz.prog 138 #[.slice (vZ A at_ c 1) (bs.length-at_) (c-at_), .pointer (some ⟨nb,0,none⟩), .pointer (some ⟨ob,0,none⟩)] w fun e w'=>∃ (k:Nat) (e2:Int),e= .returned (.tuple #[.int .i64 k, .int .i64 e2])/\k<=100000/\Cur w' g base bs A c at_ 0/\JA w g ob bs at_ n k e2 w':=by
 have d0:=M.cell 0;have d1:=y.cell 0;have f1:=y.frozen 0;simp only[List.getElem?_toArray,List.getElem?_cons_zero]at d0 d1;have E:=CQ h.own;have aa:=h.le;have J:=Ct (own_row h.own) aa E.2;have i:=Ul h.own;have Y:=Blk.apart y h.blk (by decide);unfold JA;rw[show AW bs at_ 0 n=if bs.length-at_<n then []else(bs.drop at_).take n from Aa (by simp)];by_cases j:bs.length-at_<n
 ·rw[Ab j,Ab j,Ab j];have g0:decide ((n:Int)<0)=false:=by simp
  have g1:decide (((bs.length-at_:Nat):Int)<(n:Int))=true:=by simp;omega
  have g2:decide (bs.length-at_<n)=true:=by simp;omega
  have H:=hid h;have HO:=hid y;clear J i E j h M y;go_enter Tryz.func138,Tryz.ntmps138;go_wp2_with fail;go_ret2;exact⟨0,1,rfl,by omega,H.out,Kept.refl _ _,rfl,rfl,_,HO.out,Am _ _ _ _⟩
 ·rw[Aa j,Aa j,Aa j];have g0:decide ((n:Int)<0)=false:=by simp
  have g1:decide (((bs.length-at_:Nat):Int)<(n:Int))=false:=by simp;omega
  have g2:decide (bs.length-at_<n)=false:=by simp;omega
  have hcut:∀a,vZ A at_ c 1=some a->a.add 0=a:=by
   intro a ha;unfold vZ at ha;split at ha
   ·exact i a ha
   ·cases A with
    |none=>cases ha
    |some a0=>
     have h0:=i a0 rfl;injection ha with ha;subst ha;rcases h.own.2 with ⟨hv,_⟩|⟨gg,ag,cur,hv,_⟩
     ·cases hv
     ·injection hv with e1 e2 e3;injection e1 with e1;subst e1;show Addr.add (Addr.add ⟨gg,0,none⟩ (at_*1)) 0=Addr.add ⟨gg,0,none⟩ (at_*1);rw[EY,EY,CW]
  have ks:=fun wx=>Dx (P:=Tryz.prog) (t:=22) (s:=1) Tryz.underlying22 (fun _=>by kernel_rfl) (vZ A at_ c 1) (bs.length-at_) (c-at_) .i64 (n:Int) n rfl (by have:=E.2;omega) hcut wx
  have L:vZ A at_ c 1=none->n=0/\c-at_=0:=by
   intro ha
   have hA:A=none:=by
    unfold vZ at ha;split at ha
    ·exact ha
    ·cases A with
     |none=>rfl
     |some a=>cases ha
   have:=E.1 hA;omega
  have Q:((bs.drop at_).take n).length=n:=by rw[AO,AQ];omega
  have D:=hid (GY w (vZ A at_ c 1) n (c-at_) ((bs.drop at_).take n) Q (by omega) L (Du J (by omega)));have H:=hid h;have HO:=hid y;generalize ae:(bs.drop at_).take n=ls at *;have ab:=hid Q;generalize vZ A at_ c 1=A1 at *;have ac:n<=100000:=by omega
  clear J i E j h M y hcut L ae Q;go_enter Tryz.func138,Tryz.ntmps138;go_wp2_with fail;refine D.out.mono ?_;rintro e w1 ⟨v,rfl,G,hb⟩;obtain⟨A2,c2,rfl⟩:=aZ G;have z:=HO.out.step hb;have h1:=H.out.step hb;have hz:=hb.size;have k1:=z.cell 0;have k2:=z.frozen 0;have af:=HO.out.lt;have k0:w1.cell? ⟨nb,0,none⟩=some (.int .i64 n):=(hb.cell (p:=⟨nb,0,none⟩) (World.block_lt_of_cell? _ _ d0)).trans d0;simp only[List.getElem?_toArray,List.getElem?_cons_zero]at k1;have Z:nb≠ob:=by intro e;subst e;rw[d0]at d1;cases d1
  have k3:(w1.setCell ⟨ob,0,none⟩ (.slice A2 n c2)).cell? ⟨nb,0,none⟩=some (.int .i64 n):=by rw[World.cell?_setCell_other _ _ _ _ (by intro e;injection e with e _;exact Z e.symm)];exact k0
  have H1:=hid h1;have N:=hid z;have U:=hid G;have HB:=hid hb;clear h1 z G hb D HO H d0 d1 f1;go_wp2_with fail;go_ret2;refine⟨n,0,rfl,ac,?_,?_,rfl,rfl,_,N.out.set 0 _,?_⟩
  ·exact⟨H1.out.blk.far (fun e=>Y e.symm) _,wZ H1.out.own (fZ H1.out.own N.out (by decide)) _,aa,H1.out.lo⟩
  ·exact(Kept.of_below HB.out (fun x hx=>hx.1)).set (fun h=>h.2.2 rfl) _
  ·rw[ab.out];exact wZ U.out (fZ U.out N.out (by decide)) _
theorem Fu(bs:List Nat)(at_ n:Nat):AW bs at_ 0 n=if bs.length-at_<n then []else(bs.drop at_).take n:=Aa (by simp)
theorem Gx(bs:List Nat)(at_ n:Nat):takeA bs at_ 0 n=if bs.length-at_<n then at_ else at_+n:=Aa (by simp)
theorem If(bs:List Nat)(at_ n:Nat):Be bs at_ 0 n=if bs.length-at_<n then 1 else 0:=Aa (by simp)
theorem Nw(bs:List Nat)(at_:Nat)(er:Int)(n:Nat):(AW bs at_ er n).length<=n:=by
 unfold AW;split
 ·simp
 ·split
  ·simp
  ·rw[AO];omega
theorem La(bs:List Nat)(at_:Nat)(er:Int)(n:Nat)(h:at_<=bs.length):takeA bs at_ er n<=bs.length:=by
 unfold takeA;split
 ·exact h
 ·split
  ·exact h
  ·omega
theorem I1(w:World)(g base:Nat)(bs:List Nat)(A:Option Addr)(c at_:Nat)(er:Int)(n:Nat)(ac:bs.length<=100000)(hn:n<=1000000000)(h:Cur w g base bs A c at_ er):
 Calls Tryz.prog 85 #[.pointer (some ⟨g,0,none⟩), .int .i64 n] w (I5 w g base bs A c at_ er n):=by
 have ag:=h.blk.lt;have h2:Cur ((w.alloc (.cells #[.int .i64 n] 3)).alloc (.cells #[.slice none 0 0] 22)) g base bs A c at_ er:=(h.step (bZ (Ag _ _))).step (bZ (Ag _ _));have L:Blk ((w.alloc (.cells #[.int .i64 n] 3)).alloc (.cells #[.slice none 0 0] 22)) w.heap.size 3 #[.int .i64 n]:=(Blk.made _ _ _).alloc _;have J:Blk ((w.alloc (.cells #[.int .i64 n] 3)).alloc (.cells #[.slice none 0 0] 22)) (w.heap.size+1) 22 #[.slice none 0 0]:=Blk.made_at _ _ _ (by simp);have Q:Kept (fun x=>x<w.heap.size/\x≠g) w ((w.alloc (.cells #[.int .i64 n] 3)).alloc (.cells #[.slice none 0 0] 22)):=Kept.of_below (by(repeat (with_reducible first|exact Ag _ _|assumption|refine Aq ?_ |refine below_drewN ?_ _|refine qZ ?_ |refine bZ ?_ |refine eZ (by assumption) ?_ |refine belA ?_ |refine rZ (by assumption) ?_)):Below w.heap.size w _) (fun x hx=>hx.1);have af:((w.alloc (.cells #[.int .i64 n] 3)).alloc (.cells #[.slice none 0 0] 22)).heap.size=w.heap.size+2:=by simp
 have ah:=h.le;unfold I5;by_cases he:er=0
 ·subst he;have aa:∀M wx,(callFunc 138 M).run Tryz.prog wx= .ok (.enter 138 M) wx:=by intro M wx;simp[callFunc,go_sem,Tryz.func138];rfl
  have D:=fun w2 (hc2:Cur w2 g base bs A c at_ 0) (L:Blk w2 w.heap.size 3 #[.int .i64 n]) (J:Blk w2 (w.heap.size+1) 22 #[.slice none 0 0])=>Kf w2 g base bs A c at_ hc2 ac 138 #[.pointer (some ⟨w.heap.size,0,none⟩), .pointer (some ⟨w.heap.size+1,0,none⟩)] (fun k e2 w'=>JA w2 g (w.heap.size+1) bs at_ n k e2 w') aa
   (fun q=>(SY (w2.drewN q) g base w.heap.size (w.heap.size+1) bs A c at_ n ac hn (hc2.drewN q) (L.drewN q) (J.drewN q)).mono fun e w' ⟨k,e2,h1,h2,h3,h4⟩=>⟨k,e2,h1,h2,h3,⟨⟨h4.1.os,h4.1.tape,h4.1.output,h4.1.size,h4.1.block⟩,h4.2⟩⟩)
  have D:=hid (D _ h2 L J);have HK:=hid Q;clear aa h2 L J Q;have ab:w.heap.size+1≠g:=by omega
  by_cases y:bs.length-at_<n
  ·have eO:AW bs at_ 0 n= []:=(Fu _ _ _).trans (Ab y);have eA:takeA bs at_ 0 n=at_:=(Gx _ _ _).trans (Ab y);have eE:Be bs at_ 0 n=1:=(If _ _ _).trans (Ab y);unfold JA at D;rw[eO,Ab y,Ab y]at D;rw[eO,eA,eE];clear eO eA eE y;go_enter Tryz.func85,Tryz.ntmps85;go_wp2_with fail;refine D.out.mono ?_;rintro e w4 ⟨k,e2,w3,⟨j,Z,U,v,z,i⟩,G,E⟩;have N:Hid (Kept (fun x=>x<w.heap.size/\x≠g) w w3):=HK.out.trans ⟨j.os,j.tape,j.output,j.size,fun x hx=>j.block x ⟨by omega,hx.2,by omega⟩⟩;obtain⟨va,vc,rfl⟩:=aZ i;subst U;rcases E with ⟨_,rfl,rfl⟩|⟨h0,_,_⟩
   ·have hB:=z.far (fun e=>ab e) (p:=⟨g,2,none⟩) (.int .i64 1);have d0:=hB.cell 0;simp only[List.getElem?_toArray,List.getElem?_cons_zero]at d0;have HC:=hid (G.setErr 1);have HO:=hid (jZ (wZ (p:=⟨g,2,none⟩) i (fZ i G.blk (by decide)) (.int .i64 1)) (show w.heap.size<=_ by omega));have Y:Hid (Kept (fun x=>x<w.heap.size/\x≠g) w (w3.setCell ⟨g,2,none⟩ (.int .i64 1))):=N.out.set (fun h=>h.2 rfl) _;generalize w3.setCell ⟨g,2,none⟩ (.int .i64 1)=w5 at *;clear hB z i G j D N HK Z;go_wp2_with fail;go_ret;exact⟨_,rfl,HO.out,HC.out,Y.out⟩
   ·cases h0
  ·have ae:n<=bs.length-at_:=(by omega);have eO:AW bs at_ 0 n=(bs.drop at_).take n:=(Fu _ _ _).trans (Aa y);have eA:takeA bs at_ 0 n=at_+n:=(Gx _ _ _).trans (Aa y);have eE:Be bs at_ 0 n=0:=(If _ _ _).trans (Aa y);unfold JA at D;rw[eO,Aa y,Aa y]at D;rw[eO,eA,eE];clear eO eA eE y;generalize (bs.drop at_).take n=ls at *;go_enter Tryz.func85,Tryz.ntmps85;go_wp2_with fail;refine D.out.mono ?_;rintro e w4 ⟨k,e2,w3,⟨j,Z,U,v,z,i⟩,G,E⟩;have N:Hid (Kept (fun x=>x<w.heap.size/\x≠g) w w3):=HK.out.trans ⟨j.os,j.tape,j.output,j.size,fun x hx=>j.block x ⟨by omega,hx.2,by omega⟩⟩;obtain⟨va,vc,rfl⟩:=aZ i;subst U;rcases E with ⟨h0,_,_⟩|⟨_,rfl,rfl⟩
   ·exact absurd rfl h0
   ·obtain rfl:k=n:=by omega
    have hB:=z.far (fun e=>ab e) (p:=⟨g,1,none⟩) (.int .i64 (at_+k:Nat));have d0:=hB.cell 0;simp only[List.getElem?_toArray,List.getElem?_cons_zero]at d0;have HC:=hid (G.setAt (at_+k) (by omega));have HO:=hid (jZ (wZ (p:=⟨g,1,none⟩) i (fZ i G.blk (by decide)) (.int .i64 (at_+k:Nat))) (show w.heap.size<=_ by omega));have Y:Hid (Kept (fun x=>x<w.heap.size/\x≠g) w (w3.setCell ⟨g,1,none⟩ (.int .i64 (at_+k:Nat)))):=N.out.set (fun h=>h.2 rfl) _;generalize w3.setCell ⟨g,1,none⟩ (.int .i64 (at_+k:Nat))=w5 at *;clear hB z i G j D N HK Z;go_wp2_with fail;go_ret;exact⟨_,rfl,HO.out,HC.out,Y.out⟩
 ·have D:=hid (Lf _ g base bs A c at_ er h2 he (.func (.func 138) #[] #[.pointer (some ⟨w.heap.size,0,none⟩), .pointer (some ⟨w.heap.size+1,0,none⟩)]));have eO:AW bs at_ er n= []:=Ab he;have eA:takeA bs at_ er n=at_:=Ab he;have eE:Be bs at_ er n=er:=Ab he;rw[eO,eA,eE];have HK:=hid Q;have HC:=hid h2;have d0:=J.cell 0;simp only[List.getElem?_toArray,List.getElem?_cons_zero]at d0;clear h2 L J Q he eO eA eE;go_enter Tryz.func85,Tryz.ntmps85;go_wp2_with fail;refine D.out.mono ?_;rintro e w4 ⟨rfl,rfl⟩;go_wp2_with fail;go_ret;exact⟨_,rfl,Am _ _ _ _,HC.out,HK.out⟩
def EF(bs:List Nat)(at_:Nat)(er:Int):Nat:=if er≠0 then 0 else bs.getD at_ 0
theorem St(w:World)(g base:Nat)(bs:List Nat)(A:Option Addr)(c at_:Nat)(er:Int)(j:bs.length<=100000)(h:Cur w g base bs A c at_ er):
 Calls Tryz.prog 87 #[.pointer (some ⟨g,0,none⟩)] w fun e w'=>e= .returned (.int .u8 (EF bs at_ er:Nat))/\Cur w' g base bs A c (takeA bs at_ er 1) (Be bs at_ er 1)/\Kept (uZ g w) w w':=by
 have D:=I1 w g base bs A c at_ er 1 j (by omega) h;unfold I5 at D;by_cases hc:er=0/\at_<bs.length
 ·have hO:AW bs at_ er 1= [bs.getD at_ 0]:=by rw[hc.1,Fu,Aa (by omega),CC hc.2,Ar,AD hc.2];rfl
  have hV:EF bs at_ er=bs.getD at_ 0:=Aa (by simp[hc.1]);rw[hO]at D;rw[hV];have D:=hid D;clear hO hV hc h;generalize bs.getD at_ 0=x at *;go_enter Tryz.func87,Tryz.ntmps87;go_wp2_with fail;refine D.out.mono ?_;rintro e w1 ⟨v,rfl,i,hc,hk⟩;obtain⟨g2,c2,hv,_⟩:=i.form (by simp);subst hv;have c0:=i.cellAt 0 (by simp);simp only[cZ,List.map_cons,List.map_nil]at c0;have HC:=hid hc;have HK:=hid hk;clear i hc hk D;go_wp2_with fail;go_ret;exact⟨rfl,HC.out,HK.out⟩
 ·have hO:AW bs at_ er 1= []:=by
   by_cases he:er=0
   ·rw[he,Fu,Ab (by omega)]
   ·exact Ab he
  have hV:EF bs at_ er=0:=by
   unfold EF;split
   ·rfl
   ·rw[Ar,Gr (by omega)];rfl
  rw[hO]at D;rw[hV];have D:=hid D;clear hO hV hc h;go_enter Tryz.func87,Tryz.ntmps87;go_wp2_with fail;refine D.out.mono ?_;rintro e w1 ⟨v,rfl,i,hc,hk⟩;obtain⟨A2,c2,rfl⟩:=aZ i;have HC:=hid hc;have HK:=hid hk;simp only[List.length_nil]at i;clear i hc hk D;go_wp2_with fail;go_ret;exact⟨rfl,HC.out,HK.out⟩
def xZ(most:Nat)(bs:List Nat)(at_:Nat)(er:Int):Nat:=if er≠0 then 0 else(Bf most (bs.drop at_)).1
def mZ(most:Nat)(bs:List Nat)(at_:Nat)(er:Int):Nat:=if er≠0 then at_ else at_+(Bf most (bs.drop at_)).2.1
def oZ(most:Nat)(bs:List Nat)(at_:Nat)(er:Int):Int:=if er≠0 then er else(Bf most (bs.drop at_)).2.2
theorem WC(w:World)(g base mb ob:Nat)(bs:List Nat)(A:Option Addr)(c at_ most:Nat)(M:bs.length<=100000)(h8:∀x∈bs,x<=255)(y:most<=1000000000)(h:Cur w g base bs A c at_ 0)(J:Blk w mb 3 #[.int .i64 most])(i:Blk w ob 3 #[.int .i64 0]):
 Calls Tryz.prog 139 #[.slice (vZ A at_ c 1) (bs.length-at_) (c-at_), .pointer (some ⟨mb,0,none⟩), .pointer (some ⟨ob,0,none⟩)] w fun e w'=>∃ (k:Nat) (e2:Int),e= .returned (.tuple #[.int .i64 k, .int .i64 e2])/\k<=100000/\Cur w' g base bs A c at_ 0/\
  (Kept (fun x=>x≠ob) w w'/\k=(Bf most (bs.drop at_)).2.1/\e2=(Bf most (bs.drop at_)).2.2/\Blk w' ob 3 #[.int .i64 (Bf most (bs.drop at_)).1]):=by
 have d0:=J.cell 0;have f1:=i.frozen 0;have d1:=i.cell 0;simp only[List.getElem?_toArray,List.getElem?_cons_zero]at d0 d1;have E:=CQ h.own;have j:=Ct (own_row h.own) h.le E.2;have z:∀x∈bs.drop at_,x<=255:=fun x hx=>h8 x (Bb hx);have D:=OT w (vZ A at_ c 1) (bs.length-at_) (c-at_) (bs.drop at_) most y (by rw[AQ]) (by omega) z j;have L:=EZ most (bs.drop at_) z;have hk:(Bf most (bs.drop at_)).2.1<=100000:=by have:=L.2.1;rw[AQ]at this;omega
 generalize Bf most (bs.drop at_)=R at *;have G:=Blk.apart i h.blk (by decide);have D:=hid D;have H:=hid h;have HO:=hid i;generalize vZ A at_ c 1=A1 at *;clear j z L h i J E;go_enter Tryz.func139,Tryz.ntmps139;go_wp2_with fail;refine D.out.mono ?_;rintro e w1 ⟨rfl,rfl⟩;go_wp2_with fail;go_ret2;refine⟨R.2.1,R.2.2,rfl,hk,?_,(Kept.refl _ _).set (fun h=>h rfl) _,rfl,rfl,HO.out.set 0 _⟩;exact⟨H.out.blk.far (fun e=>G e.symm) _,wZ H.out.own (fZ H.out.own HO.out (by decide)) _,H.out.le,H.out.lo⟩
theorem Hi(w:World)(g base:Nat)(bs:List Nat)(A:Option Addr)(c at_:Nat)(er:Int)(most:Nat)(ae:bs.length<=100000)(h8:∀x∈bs,x<=255)(U:most<=1000000000)(h:Cur w g base bs A c at_ er):
 Calls Tryz.prog 86 #[.pointer (some ⟨g,0,none⟩), .int .i64 most] w fun e w'=>e= .returned (.int .i64 (xZ most bs at_ er:Nat))/\Cur w' g base bs A c (mZ most bs at_ er) (oZ most bs at_ er)/\Kept (uZ g w) w w':=by
 have ai:=h.blk.lt;have h2:Cur ((w.alloc (.cells #[.int .i64 most] 3)).alloc (.cells #[.int .i64 0] 3)) g base bs A c at_ er:=(h.step (bZ (Ag _ _))).step (bZ (Ag _ _));have J:Blk ((w.alloc (.cells #[.int .i64 most] 3)).alloc (.cells #[.int .i64 0] 3)) w.heap.size 3 #[.int .i64 most]:=(Blk.made _ _ _).alloc _;have G:Blk ((w.alloc (.cells #[.int .i64 most] 3)).alloc (.cells #[.int .i64 0] 3)) (w.heap.size+1) 3 #[.int .i64 0]:=Blk.made_at _ _ _ (by simp);have Q:Kept (fun x=>x<w.heap.size/\x≠g) w ((w.alloc (.cells #[.int .i64 most] 3)).alloc (.cells #[.int .i64 0] 3)):=Kept.of_below (by(repeat (with_reducible first|exact Ag _ _|assumption|refine Aq ?_ |refine below_drewN ?_ _|refine qZ ?_ |refine bZ ?_ |refine eZ (by assumption) ?_ |refine belA ?_ |refine rZ (by assumption) ?_)):Below w.heap.size w _) (fun x hx=>hx.1);have aj:=h.le;unfold uZ;by_cases he:er=0
 ·subst he;have ac:∀L wx,(callFunc 139 L).run Tryz.prog wx= .ok (.enter 139 L) wx:=by intro L wx;simp[callFunc,go_sem,Tryz.func139];rfl
  have D:=fun w2 (hc2:Cur w2 g base bs A c at_ 0) (J:Blk w2 w.heap.size 3 #[.int .i64 most]) (G:Blk w2 (w.heap.size+1) 3 #[.int .i64 0])=>Kf w2 g base bs A c at_ hc2 ae 139 #[.pointer (some ⟨w.heap.size,0,none⟩), .pointer (some ⟨w.heap.size+1,0,none⟩)]
   (fun k e2 w'=>Kept (fun x=>x≠w.heap.size+1) w2 w'/\k=(Bf most (bs.drop at_)).2.1/\e2=(Bf most (bs.drop at_)).2.2/\Blk w' (w.heap.size+1) 3 #[.int .i64 (Bf most (bs.drop at_)).1]) ac
   (fun q=>(WC (w2.drewN q) g base w.heap.size (w.heap.size+1) bs A c at_ most ae h8 U (hc2.drewN q) (J.drewN q) (G.drewN q)).mono fun e w' ⟨k,e2,h1,h2,h3,h4⟩=>⟨k,e2,h1,h2,h3,⟨⟨h4.1.os,h4.1.tape,h4.1.output,h4.1.size,h4.1.block⟩,h4.2⟩⟩)
  have D:=hid (D _ h2 J G);have af:∀x∈bs.drop at_,x<=255:=fun x hx=>h8 x (Bb hx);have aa:=EZ most (bs.drop at_) af;rw[AQ]at aa;have eV:xZ most bs at_ 0=(Bf most (bs.drop at_)).1:=Aa (by simp);have eA:mZ most bs at_ 0=at_+(Bf most (bs.drop at_)).2.1:=Aa (by simp);have eE:oZ most bs at_ 0=(Bf most (bs.drop at_)).2.2:=Aa (by simp);rw[eV,eA,eE];generalize Bf most (bs.drop at_)=R at *;have HK:=hid Q;have ag:w.heap.size+1≠g:=by omega
  have ab:=hid aa;clear ac h2 J G Q af aa eV eA eE;by_cases hR:R.2.2=0
  ·have ah:at_+R.2.1<=bs.length:=(by have:=ab.out.2.1;omega);go_enter Tryz.func86,Tryz.ntmps86;go_wp2_with fail;refine D.out.mono ?_;rintro e w4 ⟨k,e2,w3,⟨i,E,z,y⟩,M,j⟩;rcases j with ⟨h0,_,_⟩|⟨_,rfl,rfl⟩
   ·exact absurd (z.trans hR) h0
   ·have N:Hid (Kept (fun x=>x<w.heap.size/\x≠g) w w3):=HK.out.trans ⟨i.os,i.tape,i.output,i.size,fun x hx=>i.block x (by omega)⟩;have hB:=y.far (fun e=>ag e) (p:=⟨g,1,none⟩) (.int .i64 (at_+k:Nat));have d0:=hB.cell 0;simp only[List.getElem?_toArray,List.getElem?_cons_zero]at d0;have HC:=hid (M.setAt (at_+k) (by omega));rw[E]at HC;have Y:Hid (Kept (fun x=>x<w.heap.size/\x≠g) w (w3.setCell ⟨g,1,none⟩ (.int .i64 (at_+k:Nat)))):=N.out.set (fun h=>h.2 rfl) _;rw[<-E]at HC;have Z:Hid (Cur (w3.setCell ⟨g,1,none⟩ (.int .i64 (at_+k:Nat))) g base bs A c (at_+R.2.1) R.2.2):=(by rw[hR,<-E];exact HC.out);generalize w3.setCell ⟨g,1,none⟩ (.int .i64 (at_+k:Nat))=w5 at *;clear hB y M i D N HK E z HC hR;go_wp2_with fail;go_ret;exact⟨rfl,Z.out,Y.out⟩
  ·have hz:=ab.out.2.2.2.1 hR;go_enter Tryz.func86,Tryz.ntmps86;go_wp2_with fail;refine D.out.mono ?_;rintro e w4 ⟨k,e2,w3,⟨i,E,z,y⟩,M,j⟩;rcases j with ⟨_,rfl,rfl⟩|⟨h0,_,_⟩
   ·have N:Hid (Kept (fun x=>x<w.heap.size/\x≠g) w w3):=HK.out.trans ⟨i.os,i.tape,i.output,i.size,fun x hx=>i.block x (by omega)⟩;have Z:Hid (Cur (w3.setCell ⟨g,2,none⟩ (.int .i64 e2)) g base bs A c (at_+R.2.1) R.2.2):=(by rw[hz.2,<-z];exact M.setErr e2);have Y:Hid (Kept (fun x=>x<w.heap.size/\x≠g) w (w3.setCell ⟨g,2,none⟩ (.int .i64 e2))):=N.out.set (fun h=>h.2 rfl) _;generalize w3.setCell ⟨g,2,none⟩ (.int .i64 e2)=w5 at *;have HZ:=hid hz.1;clear y M i D N HK E z hR hz;go_wp2_with fail;go_ret;exact⟨by rw[HZ.out];rfl,Z.out,Y.out⟩
   ·exact absurd (z.symm.trans h0) hR
 ·have D:=hid (Lf _ g base bs A c at_ er h2 he (.func (.func 139) #[] #[.pointer (some ⟨w.heap.size,0,none⟩), .pointer (some ⟨w.heap.size+1,0,none⟩)]));have eV:xZ most bs at_ er=0:=Ab he;have eA:mZ most bs at_ er=at_:=Ab he;have eE:oZ most bs at_ er=er:=Ab he;rw[eV,eA,eE];have HK:=hid Q;have HC:=hid h2;clear h2 J G Q he eV eA eE;go_enter Tryz.func86,Tryz.ntmps86;go_wp2_with fail;refine D.out.mono ?_;rintro e w4 ⟨rfl,rfl⟩;go_wp2_with fail;go_ret;exact⟨rfl,HC.out,HK.out⟩
end Nums
namespace Nums
open Go.RowKit Mem Own Canon
theorem Mg{P:Program}{w:World}{j:Array Oper}{o:Oper}{a:Act}{K:Act->World->Prop}{Q:Exit->Act->World->Prop}{E:Prop}(y:o.guard=none)(s x:Operand)(t:TypeId)
 (ho:o.op= .call {callee:= .builtin .append,args:=#[s,x],argTypes:=#[t,t] })
 (base:Nat)(e:TypeId)(i:TypeInfo)(z:Value)(size bytes:Nat)(ht:P.underlying t=some (.slice e))(hi:P.info? e=some i)(hz:i.zero=some z)
 (hsize:i.size=size)(hby:i.bytes=bytes)(hzs:z.cells.size=size)(hsz:0<size)
 (v:Value)(n:Nat)(xs:List Value)(hs:a.eval s=v)(hown:w.ownsRow base e size v n xs)
 (A:Option Addr)(m c:Nat)(news:List Value)(hx:a.eval x= .slice A m c)(hsrc:Src w A m c size news)(h1:∀u∈news,u.oneCell'=true)
 (h63:n+m<=maxLen)(hbytes:(n+m)*bytes<=140737488355328)(hbase:base<=w.heap.size)
 (h:∀A' c' w',w'.ownsRow base e size (.slice A' (n+m) c') (n+m) (xs++news)->w.grownBy w' v.ownBlock->K (a.put o.dst (.slice A' (n+m) c')) w'):
 if Region.wanted o (yielded j a.tmps)=true then Oper.wp P o a w K Q else E:=by
 have hw:Region.wanted o (yielded j a.tmps)=true:=by simp[Region.wanted,y]
 rw[Ab hw];obtain⟨v',w',hr,h2,h3,h5⟩:=Mb (P:=P) w base t o.type e i z size bytes ht hi hz hsize hby hzs hsz v n xs hown A m c news hsrc h1 h63 hbytes hbase;obtain⟨A',c',rfl⟩:=aZ h2;unfold Oper.wp execOp;simp only[ho,resolve,invoke,builtin,Sem.run_bind,Sem.run_pure,Result.andThen_ok,List.map_toArray,List.map_cons,List.map_nil,hs,hx,hr];exact h A' c' w' h2 h3
theorem VM(w:World)(A:Option Addr)(n c at_:Nat)(ls:List Nat)(hn:ls.length=n)(hN:n<=100000)(au:at_<=n)(h8:∀x∈ls,x<=255)(ha:Row w w.heap.size A n 1 (iZ .u8 ls)):
 Calls Tryz.prog 141 #[.slice A n c, .int .i64 at_] w fun e w'=>e= .returned (.tuple #[.int .u64 (Ba (ls.drop at_) 0 0).1, .int .i64 (at_+(Ba (ls.drop at_) 0 0).2.1:Nat), .int .i64 (Ba (ls.drop at_) 0 0).2.2])/\w'=w:=by
 have HA:=hid ha;have HN:=hid hn;have H8:=hid h8;clear ha hn h8;obtain⟨R,hR⟩:∃R,R=Ba (ls.drop at_) 0 0:=⟨_,rfl⟩;rw[<-hR];have HR:=hid hR;clear hR;go_enter Tryz.func141,Tryz.ntmps141;go_wp2_with fail;go_loopw [7,8,9] (fun xv mv i wx=>∃k x m:Nat,at_+k<=n/\k<=9/\xv= .int .u64 x/\mv= .int .u64 m/\i= .int .i64 k/\Hid (x<2 ^ (7*k))/\Hid (m=2 ^ (7*k))/\Hid (Ba (ls.drop (at_+k)) k x=R)/\wx=w) (fun _ _ i _=>n-(intOf i).toNat)
 case atStart=>exact⟨0,0,1,by omega,by omega,rfl,rfl,rfl,by show _<_;simp,by show _=_;simp,HR.out.symm,rfl⟩
 case round=>
  obtain⟨k,x,m,hk,ar,rfl,rfl,rfl,hx,hm,hS,rfl⟩:=hrel;have s0:IntKind.i64.wrap ((at_:Int)+(k:Int))=((at_+k:Nat):Int):=by rw[Ak _ (by omega)];omega
  obtain⟨j,hj⟩:∃j,j=at_+k:=⟨_,rfl⟩;rw[<-hj]at s0 hS;by_cases af:j<n
  ·obtain⟨b,an,y,rfl,hb,hy,hc⟩:=Ci HA.out HN.out af;have L:j<ls.length:=(by rw[HN.out];exact af);have am:y<=255:=H8.out y (BF hy);have hs:=hS.out;rw[CC L,Ba]at hs;rw[AD L]at hy;injection hy with hy;rw[hy]at hs;have y0:(0:Int)<=(j:Int):=(by omega);have y1:(j:Int)<(n:Int):=(by omega);have gl:decide ((n:Int)<=(j:Int))=false:=(by simp;omega);have ak:decide (n<=j)=false:=(by simp;omega);have sy:IntKind.u64.wrap (y:Int)=(y:Int):=(by rw[Br];omega);by_cases h9:k=9/\y≠1
   ·rw[Ab (.inl h9)]at hs;have g1:((k:Int)==9)=true:=(by simp;omega);have g2:((y:Int) != 1)=true:=(by simp;omega);have HS:=hid hs;clear hs hS hx hm h9 hy L hj;go_wp2_with fail
    go_ret3
    exact⟨by rw[<-HS.out];rfl,rfl⟩
   ·by_cases h0:0<k/\y=0
    ·rw[Ab (.inr h0)]at hs;have g1:((k:Int)==9)=false:=(by rw[Fj];intro h;simp at h;omega);have g3:decide (0<k)=true:=(by simp;omega);have g4:((y:Int)==0)=true:=(by simp;omega);have HS:=hid hs;clear hs hS hx hm h9 h0 hy L hj;go_wp2_with fail
     go_ret3
     exact⟨by rw[<-HS.out];rfl,rfl⟩
    ·rw[Aa (by omega)]at hs;have Y:=hx.out;obtain⟨E,hE⟩:∃E,E=7*k:=⟨_,rfl⟩;have N:=hm.out;rw[<-hE]at hs Y N;obtain⟨c7,ai⟩:∃c7,c7=y % 128:=⟨_,rfl⟩;rw[<-ai]at hs;obtain⟨x2,Q⟩:∃x2,x2=x+c7*2 ^ E:=⟨_,rfl⟩;have ah:2 ^ E<=2 ^ 63:=Bu (by omega) (by omega);have aj:c7*2 ^ E<=127*2 ^ E:=EN _ (by omega)
     have ag:x+c7*2 ^ E<18446744073709551616:=by
      by_cases z:k=9
      ·have:y=1:=(by omega);have e7:c7=1:=(by omega);have al:E=63:=(by omega);subst al;rw[e7];have:x<2 ^ 63:=Y;omega
      ·have:2 ^ E<=2 ^ 56:=Bu (by omega) (by omega);omega
     obtain⟨t2,aa⟩:∃t2,t2=c7*2 ^ E:=⟨_,rfl⟩;have e1:(y:Int) % 128=(c7:Int):=by omega
     have s3:IntKind.u64.wrap ((c7:Int)*(m:Int))=(t2:Int):=(by rw[Br,aa,N];have:((c7:Int)*((2 ^ E:Nat):Int))=((c7*2 ^ E:Nat):Int):=(by push_cast;rfl);rw[this];omega);have s4:IntKind.u64.wrap ((x:Int)+(t2:Int))=(x2:Int):=(by rw[Br,Q,<-aa];omega);rw[<-Q]at hs;have ae:x2<2 ^ (7*(k+1)):=(by rw[Q,show 7*(k+1)=E+7 by omega,Nat.pow_add];omega);obtain⟨m2,ab⟩:∃m2,m2=m*128:=⟨_,rfl⟩;have U:m2=2 ^ (7*(k+1)):=(by rw[ab,N,show 7*(k+1)=E+7 by omega,Nat.pow_add]);have Z:=hid U;have H5:k≠9->IntKind.u64.wrap ((m:Int)*128)=(m2:Int):=fun h=>by have:2 ^ E<=2 ^ 56:=Bu (by omega) (by omega);rw[Br,ab];omega
     have H5:=hid H5;have HP:=hid ae;have HS:=hid hs;have H9:Hid (k=9->y=1):=fun h=>by omega
     have HJ:=hid hj;clear hs hS hx Y hy L Q aa ai ah aj ag hE ae hm N ab U hj;by_cases G:y<128
     ·have g5:decide ((y:Int)<128)=true:=(by simp;omega);have g6:decide (y<128)=true:=(by simp;omega);have hs:=HS.out;rw[Ab G]at hs;have J:Hid ((x2,k+1,(0:Int))=R):=hs;have s5:IntKind.i64.wrap ((j:Int)+1)=((at_+(k+1):Nat):Int):=(by have:=HJ.out;rw[Ak _ (by omega)];omega);clear hs HS G H5 HJ;by_cases z:k=9
      ·have g1:((k:Int)==9)=true:=(by simp;omega);have g2:((y:Int) != 1)=false:=(by have:=H9.out z;subst this;rfl);have g3:decide (0<k)=true:=(by simp;omega);have g4:((y:Int)==0)=false:=(by have:=H9.out z;subst this;rfl);clear z h9 h0;go_wp2_with fail
       go_ret3
       refine⟨?_,rfl⟩;rw[<-J.out];simp
      ·have g1:((k:Int)==9)=false:=(by rw[Fj];intro h;simp at h;omega);by_cases M:k=0
       ·have g3:decide (0<k)=false:=(by simp;omega);clear z M h9 h0;go_wp2_with fail
        go_ret3
        refine⟨?_,rfl⟩;rw[<-J.out];simp
       ·have g3:decide (0<k)=true:=(by simp;omega);have g4:((y:Int)==0)=false:=(by rw[Fj];intro h;simp at h;omega);clear z M h9 h0;go_wp2_with fail
        go_ret3
        refine⟨?_,rfl⟩;rw[<-J.out];simp
     ·have g5:decide ((y:Int)<128)=false:=(by simp;omega);have g6:decide (y<128)=false:=(by simp;omega);have hs:=HS.out;rw[Aa G]at hs;have J:Hid (Ba (ls.drop (at_+(k+1))) (k+1) x2=R):=(by have h:=hs;rw[show j+1=at_+(k+1) by have:=HJ.out;omega]at h;exact h);have ac:k≠9:=fun h=>by have:=H9.out h;omega
      have s6:=H5.out ac;have s7:IntKind.i64.wrap ((k:Int)+1)=((k+1:Nat):Int):=(by rw[Ak _ (by omega)];omega);have aq:at_+(k+1)<=n:=(by have:=HJ.out;omega);clear hs HS G H5 HJ;by_cases z:k=9
      ·have g1:((k:Int)==9)=true:=(by simp;omega);have g2:((y:Int) != 1)=false:=(by have:=H9.out z;subst this;rfl);have g3:decide (0<k)=true:=(by simp;omega);have g4:((y:Int)==0)=false:=(by have:=H9.out z;subst this;rfl);clear z h9 h0;go_wp2_with fail;go_roundw
       case measure=>go_light;simp[intOf];omega
       case rel=>go_light;exact⟨k+1,x2,m2,by omega,by omega,by first|rfl|trivial,by first|rfl|trivial,by go_num,HP.out,Z.out,J.out,by first|rfl|trivial⟩
      ·have g1:((k:Int)==9)=false:=(by rw[Fj];intro h;simp at h;omega);by_cases M:k=0
       ·have g3:decide (0<k)=false:=(by simp;omega);clear z M h9 h0;go_wp2_with fail;go_roundw
        case measure=>go_light;simp[intOf];omega
        case rel=>go_light;exact⟨k+1,x2,m2,by omega,by omega,by first|rfl|trivial,by first|rfl|trivial,by go_num,HP.out,Z.out,J.out,by first|rfl|trivial⟩
       ·have g3:decide (0<k)=true:=(by simp;omega);have g4:((y:Int)==0)=false:=(by rw[Fj];intro h;simp at h;omega);clear z M h9 h0;go_wp2_with fail;go_roundw
        case measure=>go_light;simp[intOf];omega
        case rel=>go_light;exact⟨k+1,x2,m2,by omega,by omega,by first|rfl|trivial,by first|rfl|trivial,by go_num,HP.out,Z.out,J.out,by first|rfl|trivial⟩
  ·obtain rfl:j=n:=by omega
   have hs:=hS.out;rw[Ce (by rw[HN.out];exact Aj _),Ba]at hs;have HS:=hid hs;have gl:decide ((j:Int)<=(j:Int))=true:=(by simp);have ak:decide (j<=j)=true:=(by simp);clear hs hS hx hm hj;go_wp2_with fail
   go_ret3
   exact⟨by rw[<-HS.out];rfl,rfl⟩
structure RCur (w:World) (g base:Nat) (bs:List Nat) (A:Option Addr) (c at_:Nat) (er:Int):Prop where
 blk:Blk w g 87 #[.slice A bs.length c, .int .i64 at_, .int .i64 er]
 own:w.ownsRow base 5 1 (.slice A bs.length c) bs.length (cZ .u8 bs)
 le:at_<=bs.length
 lo:base<=g
section
variable {w w':World} {g base:Nat} {bs:List Nat} {A:Option Addr} {c at_:Nat} {er:Int}
theorem RCur.drewN(h:RCur w g base bs A c at_ er)(q:Nat):RCur (w.drewN q) g base bs A c at_ er:=⟨h.blk,h.own,h.le,h.lo⟩
theorem RCur.step(h:RCur w g base bs A c at_ er)(hb:Below w.heap.size w w'):RCur w' g base bs A c at_ er:=
 ⟨h.blk.step hb,dZ h.own (fun x hx=>hb.block x (Ae h.own x hx).2),h.le,h.lo⟩
theorem RCur.cells(h:RCur w g base bs A c at_ er):w.cell? ⟨g,0,none⟩=some (.slice A bs.length c)/\w.cell? ⟨g,1,none⟩=some (.int .i64 at_)/\w.cell? ⟨g,2,none⟩=some (.int .i64 er):=⟨h.blk.cell 0,h.blk.cell 1,h.blk.cell 2⟩
theorem RCur.setErr(h:RCur w g base bs A c at_ er)(e2:Int):RCur (w.setCell ⟨g,2,none⟩ (.int .i64 e2)) g base bs A c at_ e2:=
 ⟨h.blk.set 2 _,dZ h.own (fun x hx=>AK w _ _ x (fun e=>fZ h.own h.blk (by decide) (hx.trans (AJ some e)))),h.le,h.lo⟩
theorem RCur.setAt(h:RCur w g base bs A c at_ er)(i:Nat)(h2:i<=bs.length):RCur (w.setCell ⟨g,1,none⟩ (.int .i64 i)) g base bs A c i er:=
 ⟨h.blk.set 1 _,dZ h.own (fun x hx=>AK w _ _ x (fun e=>fZ h.own h.blk (by decide) (hx.trans (AJ some e)))),h2,h.lo⟩
theorem RCur.row(h:RCur w g base bs A c at_ er):Row w w.heap.size A bs.length 1 (iZ .u8 bs):=own_row h.own
end
theorem GA{w:World}{base:Nat}(hb:base<=w.heap.size):(w.alloc (.cells #[] 5)).ownsRow base 5 1 (.slice (some ⟨w.heap.size,0,none⟩) 0 0) 0 []:=
 ⟨rfl, .inr ⟨w.heap.size,0,#[],rfl,hb,heap_alloc_new w _,Aj _,by unfold maxLen;omega,rfl,rfl⟩⟩
theorem rnew_any(w:World)(A:Option Addr)(n c:Nat)(ls:List Nat)(hn:ls.length=n)(Z:n<=100000)(z:A=none->n=0/\c=0)(ha:Row w w.heap.size A n 1 (iZ .u8 ls)):
 Calls Tryz.prog 37 #[.slice A n c] w fun e w'=>∃g B d,e= .returned (.pointer (some ⟨g,0,none⟩))/\RCur w' g w.heap.size ls B d 0 0/\Below w.heap.size w w':=by
 obtain⟨j0,U,Q,N,M⟩:=info_parts Cr;have j:Hid (Below w.heap.size w (w.alloc (.cells #[] 5))):=bZ (Ag _ _);have HS:=hid (Hc ((ha.below j.out).mono j.out.size) hn z);have HO:=hid (GA (w:=w) (Aj _));have HN:=hid hn;have L:=j.out.size;clear hn z ha;go_enter Tryz.func37,Tryz.ntmps37;go_wp2_with(at_builtin;refine gZ rfl (.tmp 3) (.tmp 4) 22 rfl w.heap.size 5 j0 _ 1 1 Tryz.underlying22 U Q N M rfl (by decide) _ _ _ (by rfl) HO.out _ _ _ _ (by rfl) HS.out (Cm _ _) (by unfold maxLen;omega) (by omega) L ?_;intro v4 w4 i E G;have J:Hid (Below w.heap.size w w4):=j.out.grown E L (fun y hy=>(Ae HO.out y hy).1);obtain⟨B,d,rfl⟩:=aZ i;have Y:Hid (w4.ownsRow w.heap.size 5 1 (.slice B (0+n) d) (0+n) (cZ .u8 ls)):=i;clear i E G);have hz:=J.out.size;go_ret;refine⟨w4.heap.size,B,d,rfl,⟨?_,?_,AY _,hz⟩,kZ hz J.out⟩
 ·rw[HN.out,<-Bq n];exact Blk.made _ _ _
 ·have h:=Y.out.alloc (.cells #[.slice B (0+n) d, .int .i64 0, .int .i64 0] 87);rw[HN.out];rw[Bq]at h;exact h
theorem rleft_any(w:World)(g base:Nat)(bs:List Nat)(A:Option Addr)(c at_:Nat)(er:Int)(j:bs.length<=100000)(h:RCur w g base bs A c at_ er):
 Calls Tryz.prog 91 #[.pointer (some ⟨g,0,none⟩)] w fun e w'=>e= .returned (.int .i64 (bs.length-at_:Nat))/\∃q,w'=w.drewN q:=by
 obtain⟨d0,d1,d2⟩:=h.cells;have i:=h.le;have s1:IntKind.i64.wrap ((bs.length:Int)-(at_:Int))=((bs.length-at_:Nat):Int):=by rw[Ak _ (by omega)];omega
 generalize bs.length-at_=m at *;generalize bs.length=n at *;clear h i;go_enter Tryz.func91,Tryz.ntmps91;go_wp2_with fail;go_quiet (fail);go_wp2_with fail;go_ret;exact⟨rfl,_,rfl⟩
theorem RI(w:World)(g base:Nat)(bs:List Nat)(A:Option Addr)(c at_:Nat)(er e2:Int)(h:RCur w g base bs A c at_ er):
 Calls Tryz.prog 41 #[.pointer (some ⟨g,0,none⟩), .int .i64 e2] w fun e w'=>e= .returned (.tuple #[])/\RCur w' g base bs A c at_ (Dv er e2)/\Kept (fun x=>x≠g) w w':=by
 obtain⟨d0,d1,d2⟩:=h.cells;have f2:=h.blk.frozen 2;have H:=hid h;clear h;unfold Dv;by_cases he:er=0
 ·subst he;rw[Ab rfl];go_enter Tryz.func41,Tryz.ntmps41;go_wp2_with fail;refine bodyPost_end (Ds rfl _ _ _) rfl ?_;exact⟨rfl,H.out.setErr e2,(Kept.refl _ _).set (fun h=>h rfl) _⟩
 ·rw[Aa he];have g1:(er==0)=false:=by simpa using he
  clear he;go_enter Tryz.func41,Tryz.ntmps41;go_wp2_with fail;refine bodyPost_end (Ds rfl _ _ _) rfl ?_;exact⟨rfl,H.out,Kept.refl _ _⟩
end Nums
namespace Nums
open Go.RowKit Mem Own Canon
def Jh(w:World)(g base:Nat)(bs:List Nat)(A:Option Addr)(c at_:Nat)(er:Int)(n:Nat)(e:Ending)(w':World):Prop:=
 ∃v,e= .returned v/\w'.ownsRow w.heap.size 5 1 v (AW bs at_ er n).length (cZ .u8 (AW bs at_ er n))/\RCur w' g base bs A c (takeA bs at_ er n) (Be bs at_ er n)/\Kept (uZ g w) w w'
theorem R0{w:World}{B c n k m:Nat}{A:Option Addr}{bs:List Nat}(h:Row w B A n 1 (iZ .u8 bs))(hn:bs.length=n)(hk:k+m<=n)(hc:n<=c)(y:A=none->n=0/\c=0):Src w (vZ A k c 1) m (c-k) 1 (cZ .u8 ((bs.drop k).take m)):=by
 have hr:Row w B (vZ A k c 1) m 1 (iZ .u8 ((bs.drop k).take m)):=h.cut k m hk hc (fun i j hi hj=>by
  obtain rfl:j=0:=by omega
  simp only[iZ,List.getD_eq_getElem?_getD,List.getElem?_take,List.getElem?_drop];rw[Ab hi])
 refine Hc hr (by rw[AO,AQ];omega) (fun e=> ?_)
 have hA:A=none:=by
  unfold vZ at e;split at e
  ·exact e
  ·cases A with
   |none=>rfl
   |some a=>cases e
 have:=y hA;omega
theorem Jf(w:World)(g base:Nat)(bs:List Nat)(A:Option Addr)(c at_:Nat)(er:Int)(n:Nat)(aa:bs.length<=100000)(hn:n<=1000000000)(h:RCur w g base bs A c at_ er):
 Calls Tryz.prog 38 #[.pointer (some ⟨g,0,none⟩), .int .i64 n] w (Jh w g base bs A c at_ er n):=by
 obtain⟨j0,aj,ah,af,ae⟩:=info_parts Cr;obtain⟨d0,d1,d2⟩:=h.cells;have f1:=h.blk.frozen 1;have f2:=h.blk.frozen 2;have ak:=h.le;have an:=h.blk.lt;have H:=hid h;have g0:decide ((n:Int)<0)=false:=by simp
 unfold Jh;by_cases he:er=0
 ·subst he;have D:=hid (rleft_any w g base bs A c at_ 0 aa h);by_cases i:bs.length-at_<n
  ·have eO:AW bs at_ 0 n= []:=(Fu _ _ _).trans (Ab i);have eA:takeA bs at_ 0 n=at_:=(Gx _ _ _).trans (Ab i);have eE:Be bs at_ 0 n=1:=(If _ _ _).trans (Ab i);rw[eO,eA,eE];have g1:decide (((bs.length-at_:Nat):Int)<(n:Int))=true:=(by simp;omega);have ag:decide (bs.length-at_<n)=true:=(by simp;omega);generalize bs.length-at_=m at *;clear eO eA eE h i;go_enter Tryz.func38,Tryz.ntmps38;go_wp2_with fail;refine D.out.mono ?_;rintro e w1 ⟨rfl,q,rfl⟩;have H1:Hid (RCur (w.drewN q) g base bs A c at_ 0):=H.out.drewN q;clear D;go_wp2_with fail;go_ret;exact⟨_,rfl,Am _ _ _ _,H1.out.setErr 1,(Kept.of_below (B:=w.heap.size) (by(repeat (with_reducible first|exact Ag _ _|assumption|refine Aq ?_ |refine below_drewN ?_ _|refine qZ ?_ |refine bZ ?_ |refine eZ (by assumption) ?_ |refine belA ?_ |refine rZ (by assumption) ?_))) (fun x hx=>hx.1)).set (fun h=>h.2 rfl) _⟩
  ·have eO:AW bs at_ 0 n=(bs.drop at_).take n:=(Fu _ _ _).trans (Aa i);have eA:takeA bs at_ 0 n=at_+n:=(Gx _ _ _).trans (Aa i);have eE:Be bs at_ 0 n=0:=(If _ _ _).trans (Aa i);rw[eO,eA,eE];have g1:decide (((bs.length-at_:Nat):Int)<(n:Int))=false:=(by simp;omega);have ag:decide (bs.length-at_<n)=false:=(by simp;omega);have hl:at_+n<=bs.length:=(by omega);have j:=CQ h.own;have al:=j.2;have aq:A=none->c=0:=fun e=>(j.1 e).2;have Q:Hid (∀wx,Below w.heap.size w wx->Src wx (vZ A at_ c 1) n (c-at_) 1 (cZ .u8 ((bs.drop at_).take n))):=fun wx hb=>R0 (h.row.below hb) rfl hl j.2 j.1;have ks:=fun wx=>G5 (P:=Tryz.prog) (t:=22) (s:=1) Tryz.underlying22 (fun _=>by kernel_rfl) A bs.length c .i64 .i64 (at_:Int) ((at_+n:Nat):Int) at_ (at_+n) rfl rfl (by omega) (by omega) wx;rw[LH]at ks;have Y:((bs.drop at_).take n).length=n:=(by rw[AO,AQ];omega);have s1:IntKind.i64.wrap ((at_:Int)+(n:Int))=((at_+n:Nat):Int):=(by rw[Ak _ (by omega)];omega);rw[Y];generalize (bs.drop at_).take n=L at *;generalize bs.length-at_=m at *;obtain⟨k,hk⟩:∃k,k=at_+n:=⟨_,rfl⟩;have am:=hid hk;rw[<-hk]at ks s1 hl ⊢;generalize vZ A at_ c 1=AC at *;generalize c-at_=cc at *;obtain⟨N,hN⟩:∃N,N=bs.length:=⟨_,rfl⟩;rw[<-hN]at d0 ks aa hl ak;have J:=hid hN;clear eO eA eE h i j Y hk hN;go_enter Tryz.func38,Tryz.ntmps38;go_wp2_with fail;refine D.out.mono ?_;rintro e w1 ⟨rfl,q,rfl⟩;have H1:Hid (RCur (w.drewN q) g base bs A c at_ 0):=H.out.drewN q;clear D;go_upto_region 9 with fail;have z:=hid (show Below w.heap.size w ((w.drewN (q+1)).alloc (.cells #[] 5)) by(repeat (with_reducible first|exact Ag _ _|assumption|refine Aq ?_ |refine below_drewN ?_ _|refine qZ ?_ |refine bZ ?_ |refine eZ (by assumption) ?_ |refine belA ?_ |refine rZ (by assumption) ?_)));have HO:=hid (GA (w:=w.drewN (q+1)) (base:=w.heap.size) (Aj _));have HS:=hid (Q.out _ z.out);have ab:=z.out.size;have G:=hid (H.out.step z.out);have z0:((w.drewN (q+1)).alloc (.cells #[] 5)).cell? ⟨g,0,none⟩=some (.slice A N c):=(by rw[J.out];exact G.out.cells.1);have z1:((w.drewN (q+1)).alloc (.cells #[] 5)).cell? ⟨g,1,none⟩=some (.int .i64 at_):=G.out.cells.2.1;clear Q
   go_region_held3 (fun wx=>wx.cell? ⟨g,0,none⟩=some (.slice A N c)/\wx.cell? ⟨g,1,none⟩=some (.int .i64 at_)) (first|exact⟨d0,d1⟩|exact⟨z0,z1⟩|exact⟨y0,y1⟩)
    ((refine Mg rfl (.tmp 23) (.tmp 38) 22 rfl w.heap.size 5 j0 _ 1 1 Tryz.underlying22 aj ah af ae rfl (by decide) _ _ _ (by rfl) HO.out _ _ _ _ (by rfl) HS.out (Cm _ _) (by unfold maxLen;omega) (by omega) ab ?_;intro A5 c5 w5 E ac;have M:Below w.heap.size w w5:=z.out.grown ac ab (fun y hy=>(Ae HO.out y hy).1);have H5:=H.out.step M;have y0:w5.cell? ⟨g,0,none⟩=some (.slice A N c):=by{rw[J.out];exact H5.cells.1};have y1:w5.cell? ⟨g,1,none⟩=some (.int .i64 at_):=H5.cells.2.1;have yf:=H5.blk.frozen 1))
   have ai:=hid M;have Z:=hid H5;have U:Hid (w5.ownsRow w.heap.size 5 1 (.slice A5 (0+n) c5) (0+n) (cZ .u8 L)):=E;clear E ac M H5 HO HS z G z0 z1 d0 d1 d2 f1 f2;go_wp2_with fail;go_ret;refine⟨_,rfl,?_,Z.out.setAt k (by rw[<-J.out];exact hl),(Kept.of_below (B:=w.heap.size) ai.out (fun x hx=>hx.1)).set (fun h=>h.2 rfl) _⟩;have h:=wZ (p:=⟨g,1,none⟩) U.out (fZ U.out Z.out.blk (by decide)) (.int .i64 (k:Nat));rw[Bq]at h;exact h
 ·have g1:(er != 0)=true:=by simpa using he
  have eO:AW bs at_ er n= []:=Ab he;have eA:takeA bs at_ er n=at_:=Ab he;have eE:Be bs at_ er n=er:=Ab he;rw[eO,eA,eE];clear eO eA eE h he;go_enter Tryz.func38,Tryz.ntmps38;go_wp2_with fail;go_ret;exact⟨_,rfl,Am _ _ _ _,H.out,Kept.refl _ _⟩
theorem Rv(w:World)(g base:Nat)(bs:List Nat)(A:Option Addr)(c at_:Nat)(er:Int)(j:bs.length<=100000)(h:RCur w g base bs A c at_ er):
 Calls Tryz.prog 40 #[.pointer (some ⟨g,0,none⟩)] w fun e w'=>e= .returned (.int .u8 (EF bs at_ er:Nat))/\RCur w' g base bs A c (takeA bs at_ er 1) (Be bs at_ er 1)/\Kept (uZ g w) w w':=by
 have D:=Jf w g base bs A c at_ er 1 j (by omega) h;unfold Jh at D;by_cases hc:er=0/\at_<bs.length
 ·have hO:AW bs at_ er 1= [bs.getD at_ 0]:=by rw[hc.1,Fu,Aa (by omega),CC hc.2,Ar,AD hc.2];rfl
  have hV:EF bs at_ er=bs.getD at_ 0:=Aa (by simp[hc.1]);rw[hO]at D;rw[hV];have D:=hid D;clear hO hV hc h;generalize bs.getD at_ 0=x at *;go_enter Tryz.func40,Tryz.ntmps40;go_wp2_with fail;refine D.out.mono ?_;rintro e w1 ⟨v,rfl,i,hc,hk⟩;obtain⟨g2,c2,hv,_⟩:=i.form (by simp);subst hv;have c0:=i.cellAt 0 (by simp);simp only[cZ,List.map_cons,List.map_nil]at c0;have HC:=hid hc;have HK:=hid hk;clear i hc hk D;go_wp2_with fail;go_ret;exact⟨rfl,HC.out,HK.out⟩
 ·have hO:AW bs at_ er 1= []:=by
   by_cases he:er=0
   ·rw[he,Fu,Ab (by omega)]
   ·exact Ab he
  have hV:EF bs at_ er=0:=by
   unfold EF;split
   ·rfl
   ·rw[Ar,Gr (by omega)];rfl
  rw[hO]at D;rw[hV];have D:=hid D;clear hO hV hc h;go_enter Tryz.func40,Tryz.ntmps40;go_wp2_with fail;refine D.out.mono ?_;rintro e w1 ⟨v,rfl,i,hc,hk⟩;obtain⟨A2,c2,rfl⟩:=aZ i;have HC:=hid hc;have HK:=hid hk;simp only[List.length_nil]at i;clear i hc hk D;go_wp2_with fail;go_ret;exact⟨rfl,HC.out,HK.out⟩
def CH(bs:List Nat)(at_:Nat)(er:Int):Nat:=if er≠0 then 0 else(Ba (bs.drop at_) 0 0).1
def Eb(bs:List Nat)(at_:Nat)(er:Int):Nat:=if er≠0 then at_ else at_+(Ba (bs.drop at_) 0 0).2.1
def Ea(bs:List Nat)(at_:Nat)(er:Int):Int:=if er≠0 then er else(Ba (bs.drop at_) 0 0).2.2
theorem Wc{bs:List Nat}(h8:∀x∈bs,x<=255){at_:Nat}(er:Int)(h:at_<=bs.length):Eb bs at_ er<=bs.length:=by
 unfold Eb;split
 ·exact h
 ·have:=(Gv (bs.drop at_) 0 0 (fun x hx=>h8 x (Bb hx)) (by omega) (by simp)).2.1;rw[AQ]at this;omega
theorem Rg(w:World)(g base:Nat)(bs:List Nat)(A:Option Addr)(c at_:Nat)(er:Int)(y:bs.length<=100000)(h8:∀x∈bs,x<=255)(h:RCur w g base bs A c at_ er):
 Calls Tryz.prog 92 #[.pointer (some ⟨g,0,none⟩)] w fun e w'=>e= .returned (.int .u64 (CH bs at_ er:Nat))/\RCur w' g base bs A c (Eb bs at_ er) (Ea bs at_ er)/\Kept (uZ g w) w w':=by
 obtain⟨d0,d1,d2⟩:=h.cells;have f1:=h.blk.frozen 1;have f2:=h.blk.frozen 2;have i:=Wc h8 er h.le;have H:=hid h;by_cases he:er=0
 ·subst he;have D:=hid (fun q=>VM (w.drewN q) A bs.length c at_ bs rfl y h.le h8 (h.drewN q).row);have eV:CH bs at_ 0=(Ba (bs.drop at_) 0 0).1:=Aa (by simp);have eA:Eb bs at_ 0=at_+(Ba (bs.drop at_) 0 0).2.1:=Aa (by simp);have eE:Ea bs at_ 0=(Ba (bs.drop at_) 0 0).2.2:=Aa (by simp);rw[<-eV,<-eA,<-eE]at D;generalize CH bs at_ 0=V at *;generalize Eb bs at_ 0=P at *;generalize Ea bs at_ 0=E at *;clear eV eA eE h;obtain⟨N,hN⟩:∃N,N=bs.length:=⟨_,rfl⟩;rw[<-hN]at d0 D i;have j:=hid hN;clear hN;go_enter Tryz.func92,Tryz.ntmps92;go_wp2_with fail;go_quiet ((go_at_call 141;exact B0 (D.out _)));go_wp2_with fail;go_ret;exact⟨rfl,(((H.out.drewN _).setAt P (by rw[<-j.out];exact i)).setErr E),((Kept.of_below (B:=w.heap.size) (by(repeat (with_reducible first|exact Ag _ _|assumption|refine Aq ?_ |refine below_drewN ?_ _|refine qZ ?_ |refine bZ ?_ |refine eZ (by assumption) ?_ |refine belA ?_ |refine rZ (by assumption) ?_))) (fun x hx=>hx.1)).set (fun h=>h.2 rfl) _).set (fun h=>h.2 rfl) _⟩
 ·have g1:(er != 0)=true:=by simpa using he
  have eV:CH bs at_ er=0:=Ab he;have eA:Eb bs at_ er=at_:=Ab he;have eE:Ea bs at_ er=er:=Ab he;rw[eV,eA,eE];clear eV eA eE h he i;go_enter Tryz.func92,Tryz.ntmps92;go_wp2_with fail;go_ret;exact⟨rfl,H.out,Kept.refl _ _⟩
theorem GB(w:World)(g base:Nat)(bs:List Nat)(A:Option Addr)(c at_:Nat)(er:Int)(most:Nat)(L:bs.length<=100000)(h8:∀x∈bs,x<=255)(z:most<=1000000000)(h:RCur w g base bs A c at_ er):
 Calls Tryz.prog 39 #[.pointer (some ⟨g,0,none⟩), .int .i64 most] w fun e w'=>e= .returned (.int .i64 (xZ most bs at_ er:Nat))/\RCur w' g base bs A c (mZ most bs at_ er) (oZ most bs at_ er)/\Kept (uZ g w) w w':=by
 obtain⟨d0,d1,d2⟩:=h.cells;have D:=hid (Rg w g base bs A c at_ er L h8 h);have M:=h.le;have g0:decide ((most:Int)<0)=false:=by simp
 have u1:IntKind.u64.wrap (most:Int)=(most:Int):=by rw[Br];omega
 have hV:er=0->CH bs at_ er=(Ba (bs.drop at_) 0 0).1/\Eb bs at_ er=at_+(Ba (bs.drop at_) 0 0).2.1/\Ea bs at_ er=(Ba (bs.drop at_) 0 0).2.2:=fun he=>⟨Aa (by simp[he]),Aa (by simp[he]),Aa (by simp[he])⟩;have y:=Gv (bs.drop at_) 0 0 (fun x hx=>h8 x (Bb hx)) (by omega) (by simp)
 have j:(Ea bs at_ er≠0->xZ most bs at_ er=0/\mZ most bs at_ er=Eb bs at_ er/\oZ most bs at_ er=Ea bs at_ er)/\(Ea bs at_ er=0->most<CH bs at_ er->xZ most bs at_ er=0/\mZ most bs at_ er=at_/\oZ most bs at_ er=6)/\(Ea bs at_ er=0->¬most<CH bs at_ er->xZ most bs at_ er=CH bs at_ er/\mZ most bs at_ er=Eb bs at_ er/\oZ most bs at_ er=0):=by
  by_cases he:er=0
  ·obtain⟨e1,e2,e3⟩:=hV he;have i1:xZ most bs at_ er=(Bf most (bs.drop at_)).1:=Aa (by simp[he]);have i2:mZ most bs at_ er=at_+(Bf most (bs.drop at_)).2.1:=Aa (by simp[he]);have i3:oZ most bs at_ er=(Bf most (bs.drop at_)).2.2:=Aa (by simp[he]);rw[e1,e2,e3,i1,i2,i3];unfold Bf;generalize Ba (bs.drop at_) 0 0=R at *;refine⟨fun h=> ?_,fun h h2=> ?_,fun h h2=> ?_⟩
   ·rw[Ab h];exact⟨rfl,by have:=y.2.2.2.1 h;simp[this.2],rfl⟩
   ·rw[Aa (by simp[h]),Ab h2];exact⟨rfl,rfl,rfl⟩
   ·rw[Aa (by simp[h]),Aa h2];exact⟨rfl,rfl,h⟩
  ·have e1:CH bs at_ er=0:=Ab he;have e2:Eb bs at_ er=at_:=Ab he;have e3:Ea bs at_ er=er:=Ab he;have i1:xZ most bs at_ er=0:=Ab he;have i2:mZ most bs at_ er=at_:=Ab he;have i3:oZ most bs at_ er=er:=Ab he;rw[e1,e2,e3,i1,i2,i3];exact⟨fun _=>⟨rfl,rfl,rfl⟩,fun h=>absurd h he,fun h=>absurd h he⟩
 have N:CH bs at_ er<18446744073709551616:=by
  by_cases he:er=0
  ·rw[(hV he).1];exact y.1
  ·rw[show CH bs at_ er=0 from Ab he];omega
 have J:mZ most bs at_ er<=bs.length:=by
  unfold mZ;split
  ·exact M
  ·have:=(EZ most (bs.drop at_) (fun x hx=>h8 x (Bb hx))).2.1;rw[AQ]at this;omega
 generalize xZ most bs at_ er=IV at *;generalize mZ most bs at_ er=IA at *;generalize oZ most bs at_ er=IE at *;generalize CH bs at_ er=V at *;generalize Eb bs at_ er=NA at *;generalize Ea bs at_ er=E at *;clear hV y h8 h;by_cases hE:E=0
 ·by_cases i:most<V
  ·obtain⟨rfl,rfl,rfl⟩:=j.2.1 hE i;have g1:(E != 0)=false:=(by simp[hE]);have g2:decide ((most:Int)<(V:Int))=true:=(by simp;omega);have G:decide (most<V)=true:=(by simp;omega);have HE:=hid hE;clear j hE i;go_enter Tryz.func39,Tryz.ntmps39;go_wp2_with fail;refine D.out.mono ?_;rintro e w1 ⟨rfl,hc,hk⟩;have HC:=hid hc;have HK:=hid hk;have e1:=hc.cells.2.1;have d2:=hc.cells.2.2;have f1:=hc.blk.frozen 1;have f2:=hc.blk.frozen 2;clear hc hk D d0;go_wp2_with fail;go_ret;exact⟨rfl,(HC.out.setAt _ J).setErr 6,(HK.out.set (fun h=>h.2 rfl) _).set (fun h=>h.2 rfl) _⟩
  ·obtain⟨rfl,rfl,rfl⟩:=j.2.2 hE i;have g1:(E != 0)=false:=(by simp[hE]);have g2:decide ((most:Int)<(IV:Int))=false:=(by simp;omega);have G:decide (most<IV)=false:=(by simp;omega);have s2:IntKind.i64.wrap (IV:Int)=(IV:Int):=(by rw[Ak _ (by omega)]);have HE:=hid hE;clear j hE i;go_enter Tryz.func39,Tryz.ntmps39;go_wp2_with fail;refine D.out.mono ?_;rintro e w1 ⟨rfl,hc,hk⟩;have HC:=hid hc;have HK:=hid hk;have d2:=hc.cells.2.2;clear hc hk D d0 d1;go_wp2_with fail;go_ret;exact⟨rfl,by rw[<-HE.out];exact HC.out,HK.out⟩
 ·obtain⟨rfl,rfl,rfl⟩:=j.1 hE;have g1:(IE != 0)=true:=by simpa using hE
  clear j hE;go_enter Tryz.func39,Tryz.ntmps39;go_wp2_with fail;refine D.out.mono ?_;rintro e w1 ⟨rfl,hc,hk⟩;have HC:=hid hc;have HK:=hid hk;have d2:=hc.cells.2.2;clear hc hk D d0 d1;go_wp2_with fail;go_ret;exact⟨rfl,HC.out,HK.out⟩
end Nums
end Go.Proofs.YtbgoibedicbkjaaGreatDoor
