/- The walks of nums.scan and nums.limited. The walks of nums' cursor: Ne -/
import Derived.Test.YtbgoibedicbkjaaGreatDoorZTwoOpens3
import Derived.Test.YtbgoibedicbkjaaGreatDoorZTwoOpens2
import Derived.Laws.BitsAllLaws
import Derived.Laws.Bits64b
import Derived.Laws.EntriesVeiled
import Derived.Deep.AppendLies
namespace Go.Proofs.YtbgoibedicbkjaaGreatDoor end Go.Proofs.YtbgoibedicbkjaaGreatDoor open Go.Proofs.YtbgoibedicbkjaaGreatDoor
open Go.Lib (hid)
set_option maxHeartbeats 1000000
set_option maxRecDepth 100000
namespace Go.Proofs.YtbgoibedicbkjaaGreatDoor.Nums
open Go.RowKit Mem Own Canon
def bbZ:List Nat->Nat->Nat->Nat×Nat×Int
 | [],_,_=>(0,0,1)
 |c :: t,i,x=>if(i=9/\c≠1)∨(0<i/\c=0)then(0,0,2)else if c<128 then(x+c % 128*2 ^ (7*i),i+1,0)else bbZ t (i+1) (x+c % 128*2 ^ (7*i))
theorem ydZ:∀ (l:List Nat) (i x:Nat),(∀c∈l,c<=255)->i<=9->x<2 ^ (7*i)->(bbZ l i x).1<18446744073709551616/\(bbZ l i x).2.1<=l.length+i/\((bbZ l i x).2.2=0->i<(bbZ l i x).2.1)/\((bbZ l i x).2.2≠0->(bbZ l i x).1=0/\(bbZ l i x).2.1=0)/\0<=(bbZ l i x).2.2/\(bbZ l i x).2.2<=2
 | [],i,x,_,_,_=>by simp[bbZ]
 |c :: t,i,x,h8,hi,hx=>by
  have hc:=h8 c (by simp)
  rw[bbZ]
  have hp:2 ^ (7*(i+1))=128*2 ^ (7*i):=by rw[show 7*(i+1)=7*i+7 by omega,Nat.pow_add];omega
  by_cases h1:(i=9/\c≠1)∨(0<i/\c=0)
  ·rw[if_pos h1];simp
  ·rw[if_neg h1]
   have hb:x+c % 128*2 ^ (7*i)<2 ^ (7*(i+1)):=by
    rw[hp]
    have:c % 128*2 ^ (7*i)<=127*2 ^ (7*i):=Nat.mul_le_mul_right _ (by omega)
    omega
   by_cases h2:c<128
   ·rw[if_pos h2]
    refine⟨?_,by simp;omega,fun _=>by simp,fun h=>absurd rfl h,by simp,by simp⟩
    by_cases h9:i=9
    ·subst h9
     have:c=1:=by omega
     subst this
     have:x<2 ^ 63:=hx
     simp
     omega
    ·have h64:2 ^ (7*(i+1))<=2 ^ 63:=Nat.pow_le_pow_right (by omega) (by omega)
     show x+c % 128*2 ^ (7*i)<_
     omega
   ·rw[if_neg h2]
    have hi9:i≠9:=by omega
    have ih:=ydZ t (i+1) _ (fun d hd=>h8 d (by simp[hd])) (by omega) hb
    refine⟨ih.1,by have:=ih.2.1;simp;omega,fun h=>by have:=ih.2.2.1 h;omega,ih.2.2.2⟩
theorem uuZ{x t i:Nat}(hx:x<2 ^ i)(h:x+t*2 ^ i<18446744073709551616):bits .or .u64 (x:Int) ((t*2 ^ i:Nat):Int)=((x+t*2 ^ i:Nat):Int):=by
 rw[bits_or_u64_nat x _ (by omega) (by omega),Nat.mul_comm t,Nat.or_comm,<-Nat.two_pow_add_eq_or_of_lt hx]
 congr 1
 omega
theorem vuZ(w:World)(A:Option Addr)(n c:Nat)(ls:List Nat)(hn:ls.length=n)(hN:n<=100000)(h8:∀x∈ls,x<=255)(ha:Row w w.heap.size A n 1 (mZ .u8 ls)):
 Calls Tryz.prog 188 #[.slice A n c] w fun e w'=>e= .returned (.tuple #[.int .u64 (bbZ ls 0 0).1, .int .i64 (bbZ ls 0 0).2.1, .int .i64 (bbZ ls 0 0).2.2])/\w'=w:=by
 have HA:=hid ha
 have HN:=hid hn
 have H8:=hid h8
 clear ha hn h8
 obtain⟨R,hR⟩:∃R,R=bbZ ls 0 0:=⟨_,rfl⟩
 rw[<-hR]
 have HR:=hid hR
 clear hR
 go_enter Tryz.func188,Tryz.ntmps188
 go_wp2_with fail
 go_loopw [2,9] (fun xv i wx=>∃k x:Nat,k<=n/\k<=9/\xv= .int .u64 x/\i= .int .i64 k/\Hid (x<2 ^ (7*k))/\Hid (bbZ (ls.drop k) k x=R)/\wx=w) (fun _ i _=>n-(intOf i).toNat)
 case atStart=>exact⟨0,0,by omega,by omega,rfl,rfl,by show _<_;simp,HR.out.symm,rfl⟩
 case round=>
  obtain⟨k,x,hk,hk9,rfl,rfl,hx,hS,rfl⟩:=hrel
  by_cases hlt:k<n
  ·obtain⟨b,off,y,rfl,hb,hy,hc⟩:=kbZ HA.out HN.out hlt
   have hkl:k<ls.length:=by rw[HN.out];exact hlt
   have hy8:y<=255:=H8.out y (List.mem_of_getElem? hy)
   have hs:=hS.out
   rw[List.drop_eq_getElem_cons hkl,bbZ]at hs
   rw[List.getElem?_eq_getElem hkl]at hy
   injection hy with hy
   rw[hy]at hs
   have y0:(0:Int)<=(k:Int):=by omega
   have y1:(k:Int)<(n:Int):=by omega
   by_cases h9:k=9/\y≠1
   ·rw[if_pos (.inl h9)]at hs
    have g1:((k:Int)==9)=true:=by simp;omega
    have g2:((y:Int) != 1)=true:=by simp;omega
    have HS:=hid hs
    clear hs hS hx h9 hy hkl
    go_wp2_with fail
    go_ret3
    exact⟨by rw[<-HS.out];rfl,rfl⟩
   ·by_cases h0:0<k/\y=0
    ·rw[if_pos (.inr h0)]at hs
     have g1:((k:Int)==9)=false:=by rw[Bool.eq_false_iff];intro h;simp at h;omega
     have g3:decide (0<k)=true:=by simp;omega
     have g4:((y:Int)==0)=true:=by simp;omega
     have HS:=hid hs
     clear hs hS hx h9 h0 hy hkl
     go_wp2_with fail
     go_ret3
     exact⟨by rw[<-HS.out];rfl,rfl⟩
    ·rw[if_neg (by omega)]at hs
     have hxx:=hx.out
     obtain⟨E,hE⟩:∃E,E=7*k:=⟨_,rfl⟩
     rw[<-hE]at hs hxx
     obtain⟨c7,hc7⟩:∃c7,c7=y % 128:=⟨_,rfl⟩
     rw[<-hc7]at hs
     obtain⟨x2,hx2⟩:∃x2,x2=x+c7*2 ^ E:=⟨_,rfl⟩
     have hpow:2 ^ E<=2 ^ 63:=Nat.pow_le_pow_right (by omega) (by omega)
     have hmul:c7*2 ^ E<=127*2 ^ E:=Nat.mul_le_mul_right _ (by omega)
     have hx64:x+c7*2 ^ E<18446744073709551616:=by
      by_cases h99:k=9
      ·have:y=1:=by omega
       have e7:c7=1:=by omega
       have e63:E=63:=by omega
       subst e63
       rw[e7]
       have:x<2 ^ 63:=hxx
       omega
      ·have:2 ^ E<=2 ^ 56:=Nat.pow_le_pow_right (by omega) (by omega)
       omega
     obtain⟨t2,ht2⟩:∃t2,t2=c7*2 ^ E:=⟨_,rfl⟩
     have s1:IntKind.i64.wrap (7*(k:Int))=(E:Int):=by rw[IntWalk.i64_in _ (by omega)];omega
     have e1:bits .andNot .u8 (y:Int) 128=(c7:Int):=by
      have h:=u8_andNot_nat y 128 (by omega) (by omega)
      rw[show(255-128)=2 ^ 7-1 from rfl,Nat.and_two_pow_sub_one_eq_mod]at h
      rw[hc7]
      exact h
     have s2:IntKind.u64.wrap (c7:Int)=(c7:Int):=by rw[IntKind.wrap_u64];omega
     have s3:IntKind.u64.wrap ((c7:Int)*2 ^ E)=(t2:Int):=by
      rw[IntKind.wrap_u64,ht2]
      have:((c7:Int)*2 ^ E)=((c7*2 ^ E:Nat):Int):=by push_cast;rfl
      rw[this]
      omega
     have e2:bits .or .u64 (x:Int) (t2:Int)=(x2:Int):=by rw[ht2,uuZ hxx hx64,hx2]
     rw[<-hx2]at hs
     have z0:(0:Int)<=(E:Int):=by omega
     have z1:(E:Int)<=64:=by omega
     have hpp:x2<2 ^ (7*(k+1)):=by
      rw[hx2,show 7*(k+1)=E+7 by omega,Nat.pow_add]
      omega
     have HP:=hid hpp
     have HS:=hid hs
     have H9:Hid (k=9->y=1):=fun h=>by omega
     have hgg:((k:Int)==9&&(y:Int) != 1)=false∨True:= .inr trivial
     clear hs hS hx hxx hy hkl hx2 ht2 hc7 hpow hmul hx64 hE hpp hgg
     have M:=HS
     by_cases hy128:y<128
     ·have g5:decide ((y:Int)<128)=true:=by simp;omega
      have g6:decide (y<128)=true:=by simp;omega
      have hs:=HS.out
      rw[if_pos hy128]at hs
      have HS2:=hid hs
      have s5:IntKind.i64.wrap ((k:Int)+1)=(k:Int)+1:=by rw[IntWalk.i64_in _ (by omega)]
      clear hs HS M hy128
      by_cases h99:k=9
      ·have g1:((k:Int)==9)=true:=by simp;omega
       have g2:((y:Int) != 1)=false:=by have:=H9.out h99;subst this;rfl
       have g3:decide (0<k)=true:=by simp;omega
       have g4:((y:Int)==0)=false:=by have:=H9.out h99;subst this;rfl
       clear h99 h9 h0
       go_wp2_with fail
       go_ret3
       exact⟨by rw[<-HS2.out];rfl,rfl⟩
      ·have g1:((k:Int)==9)=false:=by rw[Bool.eq_false_iff];intro h;simp at h;omega
       by_cases h00:k=0
       ·have g3:decide (0<k)=false:=by simp;omega
        clear h99 h00 h9 h0
        go_wp2_with fail
        go_ret3
        exact⟨by rw[<-HS2.out];rfl,rfl⟩
       ·have g3:decide (0<k)=true:=by simp;omega
        have g4:((y:Int)==0)=false:=by rw[Bool.eq_false_iff];intro h;simp at h;omega
        clear h99 h00 h9 h0
        go_wp2_with fail
        go_ret3
        exact⟨by rw[<-HS2.out];rfl,rfl⟩
     ·have g5:decide ((y:Int)<128)=false:=by simp;omega
      have g6:decide (y<128)=false:=by simp;omega
      have hs:=HS.out
      rw[if_neg hy128]at hs
      have HS2:=hid hs
      have hk9':k≠9:=fun h=>by have:=H9.out h;omega
      clear hs HS M hy128
      by_cases h99:k=9
      ·have g1:((k:Int)==9)=true:=by simp;omega
       have g2:((y:Int) != 1)=false:=by have:=H9.out h99;subst this;rfl
       have g3:decide (0<k)=true:=by simp;omega
       have g4:((y:Int)==0)=false:=by have:=H9.out h99;subst this;rfl
       clear h99 h9 h0
       go_wp2_with fail
       go_roundw
       case measure=>go_light;simp[intOf];omega
       case rel=>go_light;exact⟨k+1,x2,by omega,by omega,by first|rfl|trivial,by go_num,HP.out,HS2.out,by first|rfl|trivial⟩
      ·have g1:((k:Int)==9)=false:=by rw[Bool.eq_false_iff];intro h;simp at h;omega
       by_cases h00:k=0
       ·have g3:decide (0<k)=false:=by simp;omega
        clear h99 h00 h9 h0
        go_wp2_with fail
        go_roundw
        case measure=>go_light;simp[intOf];omega
        case rel=>go_light;exact⟨k+1,x2,by omega,by omega,by first|rfl|trivial,by go_num,HP.out,HS2.out,by first|rfl|trivial⟩
       ·have g3:decide (0<k)=true:=by simp;omega
        have g4:((y:Int)==0)=false:=by rw[Bool.eq_false_iff];intro h;simp at h;omega
        clear h99 h00 h9 h0
        go_wp2_with fail
        go_roundw
        case measure=>go_light;simp[intOf];omega
        case rel=>go_light;exact⟨k+1,x2,by omega,by omega,by first|rfl|trivial,by go_num,HP.out,HS2.out,by first|rfl|trivial⟩
  ·obtain rfl:k=n:=by omega
   have hs:=hS.out
   rw[List.drop_of_length_le (by rw[HN.out];exact Nat.le_refl _),bbZ]at hs
   have HS:=hid hs
   clear hs hS hx
   go_wp2_with fail
   go_ret3
   exact⟨by rw[<-HS.out];rfl,rfl⟩
end Go.Proofs.YtbgoibedicbkjaaGreatDoor.Nums
namespace Go.Proofs.YtbgoibedicbkjaaGreatDoor.Nums
open Go.RowKit Mem Own Canon
theorem numL_get{k:IntKind}{ls:List Nat}{i:Nat}(h:i<ls.length):(cZ k ls)[i*1+0]? =some (mZ k ls i 0):=by
 simp[cZ,mZ,List.getD_eq_getElem?_getD,h]
theorem own_row{w:World}{base c:Nat}{A:Option Addr}{ls:List Nat}(h:w.ownsRow base 5 1 (.slice A ls.length c) ls.length (cZ .u8 ls)):Row w w.heap.size A ls.length 1 (mZ .u8 ls):=
 Row.of_own h rfl fun i j hi hj=>by
  obtain rfl:j=0:=by omega
  exact numL_get hi
theorem fhZ{w:World}{base n c:Nat}{A:Option Addr}{xs:List Value}(h:w.ownsRow base 5 1 (.slice A n c) n xs):A=none->n=0/\c=0:=(lfZ h).1
theorem fgZb{w:World}{base n c:Nat}{A:Option Addr}{xs:List Value}(h:w.ownsRow base 5 1 (.slice A n c) n xs):∀a,A=some a->a.add 0=a:=by
 intro a ha
 subst ha
 rcases h.2 with ⟨hv,_⟩|⟨g,cap,cur,hv,_⟩
 ·cases hv
 ·injection hv with e1 e2 e3
  injection e1 with e1
  subst e1
  exact cdZ g 0 0
def mbZ(most:Nat)(ls:List Nat):Nat×Nat×Int:=
 if(bbZ ls 0 0).2.2≠0 then(0,0,(bbZ ls 0 0).2.2)else if most<(bbZ ls 0 0).1 then(0,0,6)else bbZ ls 0 0
theorem tdZ(most:Nat)(ls:List Nat)(h8:∀c∈ls,c<=255):(mbZ most ls).1<=most/\(mbZ most ls).2.1<=ls.length/\((mbZ most ls).2.2=0->1<=(mbZ most ls).2.1)/\((mbZ most ls).2.2≠0->(mbZ most ls).1=0/\(mbZ most ls).2.1=0)/\0<=(mbZ most ls).2.2/\(mbZ most ls).2.2<=6:=by
 have h:=ydZ ls 0 0 h8 (by omega) (by simp)
 unfold mbZ
 split
 ·rename_i he
  exact⟨by simp,by simp,fun h0=>absurd h0 he,fun _=>⟨rfl,rfl⟩,h.2.2.2.2.1,by have:=h.2.2.2.2.2;show(bbZ ls 0 0).2.2<=6;omega⟩
 ·rename_i he
  split
  ·exact⟨by simp,by simp,fun h0=>absurd h0 (by decide),fun _=>⟨rfl,rfl⟩,by simp,by simp⟩
  ·exact⟨by omega,by have:=h.2.1;omega,fun h0=>by have:=h.2.2.1 h0;omega,h.2.2.2.1,h.2.2.2.2.1,by have:=h.2.2.2.2.2;omega⟩
theorem goZ(w:World)(A:Option Addr)(n c:Nat)(ls:List Nat)(most:Nat)(hmost:most<=1000000000)(hn:ls.length=n)(hN:n<=100000)(h8:∀x∈ls,x<=255)(ha:Row w w.heap.size A n 1 (mZ .u8 ls)):
 Calls Tryz.prog 140 #[.slice A n c, .int .i64 most] w fun e w'=>e= .returned (.tuple #[.int .i64 (mbZ most ls).1, .int .i64 (mbZ most ls).2.1, .int .i64 (mbZ most ls).2.2])/\w'=w:=by
 have D:=vuZ w A n c ls hn hN h8 ha
 have hs:=ydZ ls 0 0 h8 (by omega) (by simp)
 unfold mbZ
 clear hn h8 ha
 generalize bbZ ls 0 0=R at *
 obtain⟨x,k,er⟩:=R
 simp only at hs D ⊢
 have hx:=hs.1
 have D:=hid D
 have s1:IntKind.u64.wrap (most:Int)=(most:Int):=by rw[IntKind.wrap_u64];omega
 by_cases he:er=0
 ·subst he
  rw[if_neg (by simp)]
  by_cases hm:most<x
  ·rw[if_pos hm]
   have g1:decide ((most:Int)<(x:Int))=true:=by simp;omega
   have g2:decide (most<x)=true:=by simp;omega
   clear hs hm
   go_enter Tryz.func140,Tryz.ntmps140
   go_wp2_with fail
   refine D.out.mono ?_
   rintro e w1 ⟨rfl,rfl⟩
   go_wp2_with fail
   go_ret3
   exact⟨rfl,rfl⟩
  ·rw[if_neg hm]
   have g1:decide ((most:Int)<(x:Int))=false:=by simp;omega
   have g2:decide (most<x)=false:=by simp;omega
   have s2:IntKind.i64.wrap (x:Int)=(x:Int):=by rw[IntWalk.i64_in _ (by omega)]
   clear hs hm
   go_enter Tryz.func140,Tryz.ntmps140
   go_wp2_with fail
   refine D.out.mono ?_
   rintro e w1 ⟨rfl,rfl⟩
   go_wp2_with fail
   go_ret3
   exact⟨rfl,rfl⟩
 ·rw[if_pos he]
  have g1:(er != 0)=true:=by simpa using he
  clear hs he
  go_enter Tryz.func140,Tryz.ntmps140
  go_wp2_with fail
  refine D.out.mono ?_
  rintro e w1 ⟨rfl,rfl⟩
  go_wp2_with fail
  go_ret3
  exact⟨rfl,rfl⟩
structure Cur (w:World) (g base:Nat) (bs:List Nat) (A:Option Addr) (c at_:Nat) (er:Int):Prop where
 blk:Blk w g 136 #[.slice A bs.length c, .int .i64 at_, .int .i64 er]
 own:w.ownsRow base 5 1 (.slice A bs.length c) bs.length (cZ .u8 bs)
 le:at_<=bs.length
 lo:base<=g
section
variable {w w':World} {g base:Nat} {bs:List Nat} {A:Option Addr} {c at_:Nat} {er:Int}
theorem Cur.drew(h:Cur w g base bs A c at_ er):Cur w.drew g base bs A c at_ er:=⟨h.blk,h.own,h.le,h.lo⟩
theorem Cur.drewN(h:Cur w g base bs A c at_ er)(q:Nat):Cur (w.drewN q) g base bs A c at_ er:=⟨h.blk,h.own,h.le,h.lo⟩
theorem Cur.step(h:Cur w g base bs A c at_ er)(hb:Below w.heap.size w w'):Cur w' g base bs A c at_ er:=
 ⟨h.blk.step hb,eZ h.own (fun x hx=>hb.block x (World.ownsRow.lt h.own x hx).2),h.le,h.lo⟩
theorem Cur.cells(h:Cur w g base bs A c at_ er):w.cell? ⟨g,0,none⟩=some (.slice A bs.length c)/\w.cell? ⟨g,1,none⟩=some (.int .i64 at_)/\w.cell? ⟨g,2,none⟩=some (.int .i64 er):=⟨h.blk.cell 0,h.blk.cell 1,h.blk.cell 2⟩
theorem Cur.setErr(h:Cur w g base bs A c at_ er)(e2:Int):Cur (w.setCell ⟨g,2,none⟩ (.int .i64 e2)) g base bs A c at_ e2:=
 ⟨h.blk.set 2 _,eZ h.own (fun x hx=>Below.heap_setCell w _ _ x (fun e=>jZ h.own h.blk (by decide) (hx.trans (congrArg some e)))),h.le,h.lo⟩
theorem Cur.setAt(h:Cur w g base bs A c at_ er)(at2:Nat)(h2:at2<=bs.length):Cur (w.setCell ⟨g,1,none⟩ (.int .i64 at2)) g base bs A c at2 er:=
 ⟨h.blk.set 1 _,eZ h.own (fun x hx=>Below.heap_setCell w _ _ x (fun e=>jZ h.own h.blk (by decide) (hx.trans (congrArg some e)))),h2,h.lo⟩
end
theorem new_any(w:World)(A:Option Addr)(n c:Nat)(ls:List Nat)(hn:ls.length=n)(hle:n<=100000)(hnil:A=none->n=0/\c=0)(ha:Row w w.heap.size A n 1 (mZ .u8 ls)):
 Calls Tryz.prog 34 #[.slice A n c] w fun e w'=>∃g B d,e= .returned (.pointer (some ⟨g,0,none⟩))/\Cur w' g w.heap.size ls B d 0 0/\Below w.heap.size w w':=by
 have D:=hid (mgZ w A n c ls hn hle hnil ha)
 have HN:=hid hn
 clear hn hnil ha
 go_enter Tryz.func34,Tryz.ntmps34
 go_wp2_with fail
 refine D.out.mono ?_
 rintro e w1 ⟨v,rfl,hown,hb⟩
 obtain⟨B,d,rfl⟩:=bZ hown
 have hz:=hb.size
 have HO:=hid hown
 have HB:=hid hb
 clear hown hb D
 go_wp2_with fail
 go_ret
 refine⟨w1.heap.size,B,d,rfl,⟨?_,?_,Nat.zero_le _,hz⟩,gZ hz HB.out⟩
 ·rw[HN.out];exact Blk.made _ _ _
 ·have h:=HO.out.alloc (.cells #[.slice B n d, .int .i64 0, .int .i64 0] 136)
  rw[HN.out]
  exact h
theorem lcZ(w:World)(g base:Nat)(bs:List Nat)(A:Option Addr)(c at_:Nat)(er:Int)(h:Cur w g base bs A c at_ er):
 Calls Tryz.prog 89 #[.pointer (some ⟨g,0,none⟩)] w fun e w'=>e= .returned (.int .i64 er)/\w'=w:=by
 obtain⟨d0,d1,d2⟩:=h.cells
 clear h
 go_enter Tryz.func89,Tryz.ntmps89
 go_wp2_with fail
 go_ret
 exact⟨rfl,rfl⟩
theorem xiZ(w:World)(g base:Nat)(bs:List Nat)(A:Option Addr)(c at_:Nat)(er:Int)(h:Cur w g base bs A c at_ er):
 Calls Tryz.prog 90 #[.pointer (some ⟨g,0,none⟩)] w fun e w'=>e= .returned (.int .i64 at_)/\w'=w:=by
 obtain⟨d0,d1,d2⟩:=h.cells
 clear h
 go_enter Tryz.func90,Tryz.ntmps90
 go_wp2_with fail
 go_ret
 exact⟨rfl,rfl⟩
def ygZ(er e2:Int):Int:=if er=0 then e2 else er
theorem pfZ(w:World)(g base:Nat)(bs:List Nat)(A:Option Addr)(c at_:Nat)(er e2:Int)(h:Cur w g base bs A c at_ er):
 Calls Tryz.prog 88 #[.pointer (some ⟨g,0,none⟩), .int .i64 e2] w fun e w'=>e= .returned (.tuple #[])/\Cur w' g base bs A c at_ (ygZ er e2)/\Kept (fun x=>x≠g) w w':=by
 obtain⟨d0,d1,d2⟩:=h.cells
 have f2:=h.blk.frozen 2
 have H:=hid h
 clear h
 unfold ygZ
 by_cases he:er=0
 ·subst he
  rw[if_pos rfl]
  go_enter Tryz.func88,Tryz.ntmps88
  go_wp2_with fail
  refine bodyPost_end (results_none rfl _ _ _) rfl ?_
  exact⟨rfl,H.out.setErr e2,(Kept.refl _ _).set (fun h=>h rfl) _⟩
 ·rw[if_neg he]
  have g1:(er==0)=false:=by simpa using he
  clear he
  go_enter Tryz.func88,Tryz.ntmps88
  go_wp2_with fail
  refine bodyPost_end (results_none rfl _ _ _) rfl ?_
  exact⟨rfl,H.out,Kept.refl _ _⟩
theorem wuZ(w:World)(g base:Nat)(bs:List Nat)(A:Option Addr)(c at_:Nat)(er:Int)(h:Cur w g base bs A c at_ er):
 Calls Tryz.prog 187 #[.pointer (some ⟨g,0,none⟩)] w fun e w'=>e= .returned (.slice (sZ A at_ c 1) (bs.length-at_) (c-at_))/\∃q,w'=w.drewN q:=by
 obtain⟨d0,d1,d2⟩:=h.cells
 have kc:=fun wx=>vcZ (P:=Tryz.prog) (t:=22) (s:=1) Tryz.underlying22 (fun _=>by kernel_rfl) A bs.length c .i64 (at_:Int) at_ rfl h.le wx
 generalize bs.length=n at *
 clear h
 go_enter Tryz.func187,Tryz.ntmps187
 go_wp2_with fail
 go_quiet (fail)
 go_wp2_with fail
 go_ret
 exact⟨rfl,_,rfl⟩
end Go.Proofs.YtbgoibedicbkjaaGreatDoor.Nums
namespace Go.Proofs.YtbgoibedicbkjaaGreatDoor.Nums
open Go.RowKit Mem Own Canon
open Go.Proofs.YtbgoibedicbkjaaGreatDoor.Crc (uZ hbZ fcZ)
theorem vZ{w:World}{base s n:Nat}{e:TypeId}{v:Value}{xs:List Value}{p:Addr}(h:w.ownsRow base e s v n xs)(hr:v.ownBlock≠some p.block)(u:Value):(w.setCell p u).ownsRow base e s v n xs:=
 eZ h fun b hb=>Below.heap_setCell w p u b (fun e=>hr (hb.trans (congrArg some e)))
def ebZ(g:Nat)(w:World)(x:Nat):Prop:=x<w.heap.size/\x≠g
theorem plZ(w:World)(g base:Nat)(bs:List Nat)(A:Option Addr)(c at_:Nat)(er:Int)(h:Cur w g base bs A c at_ er)(he:er≠0)(u:Value):
 Calls Tryz.prog 137 #[.pointer (some ⟨g,0,none⟩),u] w fun e w'=>e= .returned (.bool false)/\w'=w:=by
 have D:=hid (lcZ w g base bs A c at_ er h)
 have g1:(er != 0)=true:=by simpa using he
 clear h he
 go_enter Tryz.func137,Tryz.ntmps137
 go_wp2_with fail
 refine D.out.mono ?_
 rintro e w1 ⟨rfl,rfl⟩
 go_wp2_with fail
 go_ret
 exact⟨rfl,rfl⟩
theorem qnZ(w:World)(g base:Nat)(bs:List Nat)(A:Option Addr)(c at_:Nat)(h:Cur w g base bs A c at_ 0)(hle:bs.length<=100000)(K:Nat)(caps:Array Value)(R:Nat->Int->World->Prop)
 (hK:∀args wx,(callFunc K args).run Tryz.prog wx= .ok (.enter K args) wx)
 (hs:∀q,Calls Tryz.prog K (#[.slice (sZ A at_ c 1) (bs.length-at_) (c-at_)]++caps) (w.drewN q) fun e w'=>∃ (k:Nat) (e2:Int),e= .returned (.tuple #[.int .i64 k, .int .i64 e2])/\k<=100000/\Cur w' g base bs A c at_ 0/\R k e2 w'):
 Calls Tryz.prog 137 #[.pointer (some ⟨g,0,none⟩), .func (.func K) #[] caps] w fun e w'=>∃ (k:Nat) (e2:Int) (w2:World),R k e2 w2/\Cur w2 g base bs A c at_ 0/\
  ((e2≠0/\e= .returned (.bool false)/\w'=w2.setCell ⟨g,2,none⟩ (.int .i64 e2))∨(e2=0/\e= .returned (.bool true)/\w'=w2.setCell ⟨g,1,none⟩ (.int .i64 (at_+k:Nat)))):=by
 have D:=hid (lcZ w g base bs A c at_ 0 h)
 have D2:=hid (wuZ w g base bs A c at_ 0 h)
 have hat:=h.le
 have HS:=hid hs
 clear h hs
 go_enter Tryz.func137,Tryz.ntmps137
 go_wp2_with fail
 refine D.out.mono ?_
 rintro e w1 ⟨rfl,rfl⟩
 go_wp2_with fail
 refine D2.out.mono ?_
 rintro e w2 ⟨rfl,q,rfl⟩
 go_wp2_with fail
 refine(HS.out q).mono ?_
 rintro e w3 ⟨k,e2,rfl,hk,hc,hR⟩
 obtain⟨d0,d1,d2⟩:=hc.cells
 have f1:=hc.blk.frozen 1
 have f2:=hc.blk.frozen 2
 have HC:=hid hc
 have HR:=hid hR
 clear hc hR D D2 HS
 by_cases he:e2=0
 ·subst he
  have s1:IntKind.i64.wrap ((at_:Int)+(k:Int))=((at_+k:Nat):Int):=by rw[IntWalk.i64_in _ (by omega)];omega
  go_wp2_with fail
  go_ret
  exact⟨k,0,w3,HR.out,HC.out, .inr ⟨rfl,rfl,by simp⟩⟩
 ·have g1:(e2 != 0)=true:=by simpa using he
  have HE:=hid he
  clear he
  go_wp2_with fail
  go_ret
  exact⟨k,e2,w3,HR.out,HC.out, .inl ⟨HE.out,rfl,rfl⟩⟩
def fbZ(bs:List Nat)(at_:Nat)(er:Int)(n:Nat):List Nat:=if er≠0 then []else if bs.length-at_<n then []else(bs.drop at_).take n
def takeA(bs:List Nat)(at_:Nat)(er:Int)(n:Nat):Nat:=if er≠0 then at_ else if bs.length-at_<n then at_ else at_+n
def gbZ(bs:List Nat)(at_:Nat)(er:Int)(n:Nat):Int:=if er≠0 then er else if bs.length-at_<n then 1 else 0
def ghZ(w:World)(g base:Nat)(bs:List Nat)(A:Option Addr)(c at_:Nat)(er:Int)(n:Nat)(e:Ending)(w':World):Prop:=
 ∃v,e= .returned v/\w'.ownsRow w.heap.size 5 1 v (fbZ bs at_ er n).length (cZ .u8 (fbZ bs at_ er n))/\Cur w' g base bs A c (takeA bs at_ er n) (gbZ bs at_ er n)/\Kept (ebZ g w) w w'
def hqZ(w:World)(g ob:Nat)(bs:List Nat)(at_ n:Nat)(k:Nat)(e2:Int)(w':World):Prop:=
 Kept (fun x=>x<w.heap.size/\x≠g/\x≠ob) w w'/\(k:Int)=(if bs.length-at_<n then 0 else n)/\e2=(if bs.length-at_<n then 1 else 0)/\
  ∃v,Blk w' ob 22 #[v]/\w'.ownsRow w.heap.size 5 1 v (fbZ bs at_ 0 n).length (cZ .u8 (fbZ bs at_ 0 n))
theorem xuZ(w:World)(g base nb ob:Nat)(bs:List Nat)(A:Option Addr)(c at_ n:Nat)(hle:bs.length<=100000)(hn:n<=1000000000)(h:Cur w g base bs A c at_ 0)(hnb:Blk w nb 3 #[.int .i64 n])(hob:Blk w ob 22 #[.slice none 0 0]):
 Calls Tryz.prog 138 #[.slice (sZ A at_ c 1) (bs.length-at_) (c-at_), .pointer (some ⟨nb,0,none⟩), .pointer (some ⟨ob,0,none⟩)] w fun e w'=>∃ (k:Nat) (e2:Int),e= .returned (.tuple #[.int .i64 k, .int .i64 e2])/\k<=100000/\Cur w' g base bs A c at_ 0/\hqZ w g ob bs at_ n k e2 w':=by
 have d0:=hnb.cell 0
 have d1:=hob.cell 0
 have f1:=hob.frozen 0
 simp only[List.getElem?_toArray,List.getElem?_cons_zero]at d0 d1
 have hwf:=lfZ h.own
 have hat:=h.le
 have hrow:=uZ (own_row h.own) hat hwf.2
 have hhead:=fgZb h.own
 have hne1:=Blk.apart hob h.blk (by decide)
 unfold hqZ
 rw[show fbZ bs at_ 0 n=if bs.length-at_<n then []else(bs.drop at_).take n from if_neg (by simp)]
 by_cases hlt:bs.length-at_<n
 ·rw[if_pos hlt,if_pos hlt,if_pos hlt]
  have g0:decide ((n:Int)<0)=false:=by simp
  have g1:decide (((bs.length-at_:Nat):Int)<(n:Int))=true:=by simp;omega
  have g2:decide (bs.length-at_<n)=true:=by simp;omega
  have H:=hid h
  have HO:=hid hob
  clear hrow hhead hwf hlt h hnb hob
  go_enter Tryz.func138,Tryz.ntmps138
  go_wp2_with fail
  go_ret2
  exact⟨0,1,rfl,by omega,H.out,Kept.refl _ _,rfl,rfl,_,HO.out,World.ownsRow_nil _ _ _ _⟩
 ·rw[if_neg hlt,if_neg hlt,if_neg hlt]
  have g0:decide ((n:Int)<0)=false:=by simp
  have g1:decide (((bs.length-at_:Nat):Int)<(n:Int))=false:=by simp;omega
  have g2:decide (bs.length-at_<n)=false:=by simp;omega
  have hcut:∀a,sZ A at_ c 1=some a->a.add 0=a:=by
   intro a ha
   unfold sZ at ha
   split at ha
   ·exact hhead a ha
   ·cases A with
    |none=>cases ha
    |some a0=>
     have h0:=hhead a0 rfl
     injection ha with ha
     subst ha
     rcases h.own.2 with ⟨hv,_⟩|⟨gg,cap,cur,hv,_⟩
     ·cases hv
     ·injection hv with e1 e2 e3
      injection e1 with e1
      subst e1
      show Addr.add (Addr.add ⟨gg,0,none⟩ (at_*1)) 0=Addr.add ⟨gg,0,none⟩ (at_*1)
      rw[cdZ,cdZ,Nat.add_zero]
  have ks:=fun wx=>fcZ (P:=Tryz.prog) (t:=22) (s:=1) Tryz.underlying22 (fun _=>by kernel_rfl) (sZ A at_ c 1) (bs.length-at_) (c-at_) .i64 (n:Int) n rfl (by have:=hwf.2;omega) hcut wx
  have hnone:sZ A at_ c 1=none->n=0/\c-at_=0:=by
   intro ha
   have hA:A=none:=by
    unfold sZ at ha
    split at ha
    ·exact ha
    ·cases A with
     |none=>rfl
     |some a=>cases ha
   have:=hwf.1 hA
   omega
  have htl:((bs.drop at_).take n).length=n:=by rw[List.length_take,List.length_drop];omega
  have D:=hid (mgZ w (sZ A at_ c 1) n (c-at_) ((bs.drop at_).take n) htl (by omega) hnone (hbZ hrow (by omega)))
  have H:=hid h
  have HO:=hid hob
  generalize hdd:(bs.drop at_).take n=ls at *
  have HTL:=hid htl
  generalize sZ A at_ c 1=A1 at *
  have hnl:n<=100000:=by omega
  clear hrow hhead hwf hlt h hnb hob hcut hnone hdd htl
  go_enter Tryz.func138,Tryz.ntmps138
  go_wp2_with fail
  refine D.out.mono ?_
  rintro e w1 ⟨v,rfl,hown,hb⟩
  obtain⟨A2,c2,rfl⟩:=bZ hown
  have hob1:=HO.out.step hb
  have h1:=H.out.step hb
  have hz:=hb.size
  have k1:=hob1.cell 0
  have k2:=hob1.frozen 0
  have hobl:=HO.out.lt
  have k0:w1.cell? ⟨nb,0,none⟩=some (.int .i64 n):=(hb.cell (p:=⟨nb,0,none⟩) (World.block_lt_of_cell? _ _ d0)).trans d0
  simp only[List.getElem?_toArray,List.getElem?_cons_zero]at k1
  have hne2:nb≠ob:=by
   intro e
   subst e
   rw[d0]at d1
   cases d1
  have k3:(w1.setCell ⟨ob,0,none⟩ (.slice A2 n c2)).cell? ⟨nb,0,none⟩=some (.int .i64 n):=by
   rw[World.cell?_setCell_other _ _ _ _ (by intro e;injection e with e _;exact hne2 e.symm)]
   exact k0
  have H1:=hid h1
  have HB1:=hid hob1
  have HO1:=hid hown
  have HB:=hid hb
  clear h1 hob1 hown hb D HO H d0 d1 f1
  go_wp2_with fail
  go_ret2
  refine⟨n,0,rfl,hnl,?_,?_,rfl,rfl,_,HB1.out.set 0 _,?_⟩
  ·exact⟨H1.out.blk.far (fun e=>hne1 e.symm) _,vZ H1.out.own (jZ H1.out.own HB1.out (by decide)) _,hat,H1.out.lo⟩
  ·exact(Kept.of_below HB.out (fun x hx=>hx.1)).set (fun h=>h.2.2 rfl) _
  ·rw[HTL.out]
   exact vZ HO1.out (jZ HO1.out HB1.out (by decide)) _
theorem vhZ(bs:List Nat)(at_ n:Nat):fbZ bs at_ 0 n=if bs.length-at_<n then []else(bs.drop at_).take n:=if_neg (by simp)
theorem vjZ(bs:List Nat)(at_ n:Nat):takeA bs at_ 0 n=if bs.length-at_<n then at_ else at_+n:=if_neg (by simp)
theorem wjZ(bs:List Nat)(at_ n:Nat):gbZ bs at_ 0 n=if bs.length-at_<n then 1 else 0:=if_neg (by simp)
theorem yuZ(bs:List Nat)(at_:Nat)(er:Int)(n:Nat):(fbZ bs at_ er n).length<=n:=by
 unfold fbZ
 split
 ·simp
 ·split
  ·simp
  ·rw[List.length_take];omega
theorem hhZ(bs:List Nat)(at_:Nat)(er:Int)(n:Nat)(h:at_<=bs.length):takeA bs at_ er n<=bs.length:=by
 unfold takeA
 split
 ·exact h
 ·split
  ·exact h
  ·omega
theorem liZ(w:World)(g base:Nat)(bs:List Nat)(A:Option Addr)(c at_:Nat)(er:Int)(n:Nat)(hle:bs.length<=100000)(hn:n<=1000000000)(h:Cur w g base bs A c at_ er):
 Calls Tryz.prog 85 #[.pointer (some ⟨g,0,none⟩), .int .i64 n] w (ghZ w g base bs A c at_ er n):=by
 have hgl:=h.blk.lt
 have h2:Cur ((w.alloc (.cells #[.int .i64 n] 3)).alloc (.cells #[.slice none 0 0] 22)) g base bs A c at_ er:=(h.step (aZ (Below.refl _ _))).step (aZ (Below.refl _ _))
 have hnb:Blk ((w.alloc (.cells #[.int .i64 n] 3)).alloc (.cells #[.slice none 0 0] 22)) w.heap.size 3 #[.int .i64 n]:=(Blk.made _ _ _).alloc _
 have hob:Blk ((w.alloc (.cells #[.int .i64 n] 3)).alloc (.cells #[.slice none 0 0] 22)) (w.heap.size+1) 22 #[.slice none 0 0]:=Blk.made_at _ _ _ (by simp)
 have hk2:Kept (fun x=>x<w.heap.size/\x≠g) w ((w.alloc (.cells #[.int .i64 n] 3)).alloc (.cells #[.slice none 0 0] 22)):=Kept.of_below (by(repeat(first|(with_reducible first|exact Below.refl _ _|assumption|refine Below.drew ?_|refine below_drewN ?_ _|refine aZ ?_|refine dZ (by assumption) ?_)|((with_reducible first|refine fZ ?_ ?_|refine gZ ?_ ?_|refine iZ (by assumption) ?_ ?_);(focus(first|(simp;done)|(simp;omega)|omega|(simp at *;omega)))))):Below w.heap.size w _) (fun x hx=>hx.1)
 have hsz:((w.alloc (.cells #[.int .i64 n] 3)).alloc (.cells #[.slice none 0 0] 22)).heap.size=w.heap.size+2:=by simp
 have hat:=h.le
 unfold ghZ
 by_cases he:er=0
 ·subst he
  have hKf:∀args wx,(callFunc 138 args).run Tryz.prog wx= .ok (.enter 138 args) wx:=by
   intro args wx;simp[callFunc,go_sem,Tryz.func138];rfl
  have D:=fun w2 (hc2:Cur w2 g base bs A c at_ 0) (hnb:Blk w2 w.heap.size 3 #[.int .i64 n]) (hob:Blk w2 (w.heap.size+1) 22 #[.slice none 0 0])=>qnZ w2 g base bs A c at_ hc2 hle 138 #[.pointer (some ⟨w.heap.size,0,none⟩), .pointer (some ⟨w.heap.size+1,0,none⟩)] (fun k e2 w'=>hqZ w2 g (w.heap.size+1) bs at_ n k e2 w') hKf
   (fun q=>(xuZ (w2.drewN q) g base w.heap.size (w.heap.size+1) bs A c at_ n hle hn (hc2.drewN q) (hnb.drewN q) (hob.drewN q)).mono fun e w' ⟨k,e2,h1,h2,h3,h4⟩=>⟨k,e2,h1,h2,h3,⟨⟨h4.1.os,h4.1.tape,h4.1.output,h4.1.size,h4.1.block⟩,h4.2⟩⟩)
  have D:=hid (D _ h2 hnb hob)
  have HK:=hid hk2
  clear hKf h2 hnb hob hk2
  have hgo:w.heap.size+1≠g:=by omega
  by_cases hlt:bs.length-at_<n
  ·have eO:fbZ bs at_ 0 n= []:=(vhZ _ _ _).trans (if_pos hlt)
   have eA:takeA bs at_ 0 n=at_:=(vjZ _ _ _).trans (if_pos hlt)
   have eE:gbZ bs at_ 0 n=1:=(wjZ _ _ _).trans (if_pos hlt)
   unfold hqZ at D
   rw[eO,if_pos hlt,if_pos hlt]at D
   rw[eO,eA,eE]
   clear eO eA eE hlt
   go_enter Tryz.func85,Tryz.ntmps85
   go_wp2_with fail
   refine D.out.mono ?_
   rintro e w4 ⟨k,e2,w3,⟨hk3,hkk,hee,v,hblk,hown⟩,hc3,hcase⟩
   have HK3:Hid (Kept (fun x=>x<w.heap.size/\x≠g) w w3):=HK.out.trans ⟨hk3.os,hk3.tape,hk3.output,hk3.size,fun x hx=>hk3.block x ⟨by omega,hx.2,by omega⟩⟩
   obtain⟨va,vc,rfl⟩:=bZ hown
   subst hee
   rcases hcase with ⟨_,rfl,rfl⟩|⟨h0,_,_⟩
   ·have hB:=hblk.far (fun e=>hgo e) (p:=⟨g,2,none⟩) (.int .i64 1)
    have d0:=hB.cell 0
    simp only[List.getElem?_toArray,List.getElem?_cons_zero]at d0
    have HC:=hid (hc3.setErr 1)
    have HO:=hid (lZ (vZ (p:=⟨g,2,none⟩) hown (jZ hown hc3.blk (by decide)) (.int .i64 1)) (show w.heap.size<=_ by omega))
    have HK4:Hid (Kept (fun x=>x<w.heap.size/\x≠g) w (w3.setCell ⟨g,2,none⟩ (.int .i64 1))):=HK3.out.set (fun h=>h.2 rfl) _
    generalize w3.setCell ⟨g,2,none⟩ (.int .i64 1)=w5 at *
    clear hB hblk hown hc3 hk3 D HK3 HK hkk
    go_wp2_with fail
    go_ret
    exact⟨_,rfl,HO.out,HC.out,HK4.out⟩
   ·cases h0
  ·have hge:n<=bs.length-at_:=by omega
   have eO:fbZ bs at_ 0 n=(bs.drop at_).take n:=(vhZ _ _ _).trans (if_neg hlt)
   have eA:takeA bs at_ 0 n=at_+n:=(vjZ _ _ _).trans (if_neg hlt)
   have eE:gbZ bs at_ 0 n=0:=(wjZ _ _ _).trans (if_neg hlt)
   unfold hqZ at D
   rw[eO,if_neg hlt,if_neg hlt]at D
   rw[eO,eA,eE]
   clear eO eA eE hlt
   generalize (bs.drop at_).take n=ls at *
   go_enter Tryz.func85,Tryz.ntmps85
   go_wp2_with fail
   refine D.out.mono ?_
   rintro e w4 ⟨k,e2,w3,⟨hk3,hkk,hee,v,hblk,hown⟩,hc3,hcase⟩
   have HK3:Hid (Kept (fun x=>x<w.heap.size/\x≠g) w w3):=HK.out.trans ⟨hk3.os,hk3.tape,hk3.output,hk3.size,fun x hx=>hk3.block x ⟨by omega,hx.2,by omega⟩⟩
   obtain⟨va,vc,rfl⟩:=bZ hown
   subst hee
   rcases hcase with ⟨h0,_,_⟩|⟨_,rfl,rfl⟩
   ·exact absurd rfl h0
   ·obtain rfl:k=n:=by omega
    have hB:=hblk.far (fun e=>hgo e) (p:=⟨g,1,none⟩) (.int .i64 (at_+k:Nat))
    have d0:=hB.cell 0
    simp only[List.getElem?_toArray,List.getElem?_cons_zero]at d0
    have HC:=hid (hc3.setAt (at_+k) (by omega))
    have HO:=hid (lZ (vZ (p:=⟨g,1,none⟩) hown (jZ hown hc3.blk (by decide)) (.int .i64 (at_+k:Nat))) (show w.heap.size<=_ by omega))
    have HK4:Hid (Kept (fun x=>x<w.heap.size/\x≠g) w (w3.setCell ⟨g,1,none⟩ (.int .i64 (at_+k:Nat)))):=HK3.out.set (fun h=>h.2 rfl) _
    generalize w3.setCell ⟨g,1,none⟩ (.int .i64 (at_+k:Nat))=w5 at *
    clear hB hblk hown hc3 hk3 D HK3 HK hkk
    go_wp2_with fail
    go_ret
    exact⟨_,rfl,HO.out,HC.out,HK4.out⟩
 ·have D:=hid (plZ _ g base bs A c at_ er h2 he (.func (.func 138) #[] #[.pointer (some ⟨w.heap.size,0,none⟩), .pointer (some ⟨w.heap.size+1,0,none⟩)]))
  have eO:fbZ bs at_ er n= []:=if_pos he
  have eA:takeA bs at_ er n=at_:=if_pos he
  have eE:gbZ bs at_ er n=er:=if_pos he
  rw[eO,eA,eE]
  have HK:=hid hk2
  have HC:=hid h2
  have d0:=hob.cell 0
  simp only[List.getElem?_toArray,List.getElem?_cons_zero]at d0
  clear h2 hnb hob hk2 he eO eA eE
  go_enter Tryz.func85,Tryz.ntmps85
  go_wp2_with fail
  refine D.out.mono ?_
  rintro e w4 ⟨rfl,rfl⟩
  go_wp2_with fail
  go_ret
  exact⟨_,rfl,World.ownsRow_nil _ _ _ _,HC.out,HK.out⟩
def yeZ(bs:List Nat)(at_:Nat)(er:Int):Nat:=if er≠0 then 0 else bs.getD at_ 0
theorem zuZ(w:World)(g base:Nat)(bs:List Nat)(A:Option Addr)(c at_:Nat)(er:Int)(hle:bs.length<=100000)(h:Cur w g base bs A c at_ er):
 Calls Tryz.prog 87 #[.pointer (some ⟨g,0,none⟩)] w fun e w'=>e= .returned (.int .u8 (yeZ bs at_ er:Nat))/\Cur w' g base bs A c (takeA bs at_ er 1) (gbZ bs at_ er 1)/\Kept (ebZ g w) w w':=by
 have D:=liZ w g base bs A c at_ er 1 hle (by omega) h
 unfold ghZ at D
 by_cases hc:er=0/\at_<bs.length
 ·have hO:fbZ bs at_ er 1= [bs.getD at_ 0]:=by
   rw[hc.1,vhZ,if_neg (by omega),List.drop_eq_getElem_cons hc.2,List.getD_eq_getElem?_getD,List.getElem?_eq_getElem hc.2]
   rfl
  have hV:yeZ bs at_ er=bs.getD at_ 0:=if_neg (by simp[hc.1])
  rw[hO]at D
  rw[hV]
  have D:=hid D
  clear hO hV hc h
  generalize bs.getD at_ 0=x at *
  go_enter Tryz.func87,Tryz.ntmps87
  go_wp2_with fail
  refine D.out.mono ?_
  rintro e w1 ⟨v,rfl,hown,hc,hk⟩
  obtain⟨g2,c2,hv,_⟩:=hown.form (by simp)
  subst hv
  have c0:=hown.cellAt 0 (by simp)
  simp only[cZ,List.map_cons,List.map_nil]at c0
  have HC:=hid hc
  have HK:=hid hk
  clear hown hc hk D
  go_wp2_with fail
  go_ret
  exact⟨rfl,HC.out,HK.out⟩
 ·have hO:fbZ bs at_ er 1= []:=by
   by_cases he:er=0
   ·rw[he,vhZ,if_pos (by omega)]
   ·exact if_pos he
  have hV:yeZ bs at_ er=0:=by
   unfold yeZ
   split
   ·rfl
   ·rw[List.getD_eq_getElem?_getD,List.getElem?_eq_none (by omega)];rfl
  rw[hO]at D
  rw[hV]
  have D:=hid D
  clear hO hV hc h
  go_enter Tryz.func87,Tryz.ntmps87
  go_wp2_with fail
  refine D.out.mono ?_
  rintro e w1 ⟨v,rfl,hown,hc,hk⟩
  obtain⟨A2,c2,rfl⟩:=bZ hown
  have HC:=hid hc
  have HK:=hid hk
  simp only[List.length_nil]at hown
  clear hown hc hk D
  go_wp2_with fail
  go_ret
  exact⟨rfl,HC.out,HK.out⟩
def tZ(most:Nat)(bs:List Nat)(at_:Nat)(er:Int):Nat:=if er≠0 then 0 else(mbZ most (bs.drop at_)).1
def pZ(most:Nat)(bs:List Nat)(at_:Nat)(er:Int):Nat:=if er≠0 then at_ else at_+(mbZ most (bs.drop at_)).2.1
def qZ(most:Nat)(bs:List Nat)(at_:Nat)(er:Int):Int:=if er≠0 then er else(mbZ most (bs.drop at_)).2.2
theorem kxZ(w:World)(g base mb ob:Nat)(bs:List Nat)(A:Option Addr)(c at_ most:Nat)(hle:bs.length<=100000)(h8:∀x∈bs,x<=255)(hmost:most<=1000000000)(h:Cur w g base bs A c at_ 0)(hmb:Blk w mb 3 #[.int .i64 most])(hob:Blk w ob 3 #[.int .i64 0]):
 Calls Tryz.prog 139 #[.slice (sZ A at_ c 1) (bs.length-at_) (c-at_), .pointer (some ⟨mb,0,none⟩), .pointer (some ⟨ob,0,none⟩)] w fun e w'=>∃ (k:Nat) (e2:Int),e= .returned (.tuple #[.int .i64 k, .int .i64 e2])/\k<=100000/\Cur w' g base bs A c at_ 0/\
  (Kept (fun x=>x≠ob) w w'/\k=(mbZ most (bs.drop at_)).2.1/\e2=(mbZ most (bs.drop at_)).2.2/\Blk w' ob 3 #[.int .i64 (mbZ most (bs.drop at_)).1]):=by
 have d0:=hmb.cell 0
 have f1:=hob.frozen 0
 have d1:=hob.cell 0
 simp only[List.getElem?_toArray,List.getElem?_cons_zero]at d0 d1
 have hwf:=lfZ h.own
 have hrow:=uZ (own_row h.own) h.le hwf.2
 have h8':∀x∈bs.drop at_,x<=255:=fun x hx=>h8 x (List.mem_of_mem_drop hx)
 have D:=goZ w (sZ A at_ c 1) (bs.length-at_) (c-at_) (bs.drop at_) most hmost (by rw[List.length_drop]) (by omega) h8' hrow
 have hsp:=tdZ most (bs.drop at_) h8'
 have hk:(mbZ most (bs.drop at_)).2.1<=100000:=by have:=hsp.2.1;rw[List.length_drop]at this;omega
 generalize mbZ most (bs.drop at_)=R at *
 have hne1:=Blk.apart hob h.blk (by decide)
 have D:=hid D
 have H:=hid h
 have HO:=hid hob
 generalize sZ A at_ c 1=A1 at *
 clear hrow h8' hsp h hob hmb hwf
 go_enter Tryz.func139,Tryz.ntmps139
 go_wp2_with fail
 refine D.out.mono ?_
 rintro e w1 ⟨rfl,rfl⟩
 go_wp2_with fail
 go_ret2
 refine⟨R.2.1,R.2.2,rfl,hk,?_,(Kept.refl _ _).set (fun h=>h rfl) _,rfl,rfl,HO.out.set 0 _⟩
 exact⟨H.out.blk.far (fun e=>hne1 e.symm) _,vZ H.out.own (jZ H.out.own HO.out (by decide)) _,H.out.le,H.out.lo⟩
theorem mhZ(w:World)(g base:Nat)(bs:List Nat)(A:Option Addr)(c at_:Nat)(er:Int)(most:Nat)(hle:bs.length<=100000)(h8:∀x∈bs,x<=255)(hmost:most<=1000000000)(h:Cur w g base bs A c at_ er):
 Calls Tryz.prog 86 #[.pointer (some ⟨g,0,none⟩), .int .i64 most] w fun e w'=>e= .returned (.int .i64 (tZ most bs at_ er:Nat))/\Cur w' g base bs A c (pZ most bs at_ er) (qZ most bs at_ er)/\Kept (ebZ g w) w w':=by
 have hgl:=h.blk.lt
 have h2:Cur ((w.alloc (.cells #[.int .i64 most] 3)).alloc (.cells #[.int .i64 0] 3)) g base bs A c at_ er:=(h.step (aZ (Below.refl _ _))).step (aZ (Below.refl _ _))
 have hnb:Blk ((w.alloc (.cells #[.int .i64 most] 3)).alloc (.cells #[.int .i64 0] 3)) w.heap.size 3 #[.int .i64 most]:=(Blk.made _ _ _).alloc _
 have hob:Blk ((w.alloc (.cells #[.int .i64 most] 3)).alloc (.cells #[.int .i64 0] 3)) (w.heap.size+1) 3 #[.int .i64 0]:=Blk.made_at _ _ _ (by simp)
 have hk2:Kept (fun x=>x<w.heap.size/\x≠g) w ((w.alloc (.cells #[.int .i64 most] 3)).alloc (.cells #[.int .i64 0] 3)):=Kept.of_below (by(repeat(first|(with_reducible first|exact Below.refl _ _|assumption|refine Below.drew ?_|refine below_drewN ?_ _|refine aZ ?_|refine dZ (by assumption) ?_)|((with_reducible first|refine fZ ?_ ?_|refine gZ ?_ ?_|refine iZ (by assumption) ?_ ?_);(focus(first|(simp;done)|(simp;omega)|omega|(simp at *;omega)))))):Below w.heap.size w _) (fun x hx=>hx.1)
 have hat:=h.le
 unfold ebZ
 by_cases he:er=0
 ·subst he
  have hKf:∀args wx,(callFunc 139 args).run Tryz.prog wx= .ok (.enter 139 args) wx:=by
   intro args wx;simp[callFunc,go_sem,Tryz.func139];rfl
  have D:=fun w2 (hc2:Cur w2 g base bs A c at_ 0) (hnb:Blk w2 w.heap.size 3 #[.int .i64 most]) (hob:Blk w2 (w.heap.size+1) 3 #[.int .i64 0])=>qnZ w2 g base bs A c at_ hc2 hle 139 #[.pointer (some ⟨w.heap.size,0,none⟩), .pointer (some ⟨w.heap.size+1,0,none⟩)]
   (fun k e2 w'=>Kept (fun x=>x≠w.heap.size+1) w2 w'/\k=(mbZ most (bs.drop at_)).2.1/\e2=(mbZ most (bs.drop at_)).2.2/\Blk w' (w.heap.size+1) 3 #[.int .i64 (mbZ most (bs.drop at_)).1]) hKf
   (fun q=>(kxZ (w2.drewN q) g base w.heap.size (w.heap.size+1) bs A c at_ most hle h8 hmost (hc2.drewN q) (hnb.drewN q) (hob.drewN q)).mono fun e w' ⟨k,e2,h1,h2,h3,h4⟩=>⟨k,e2,h1,h2,h3,⟨⟨h4.1.os,h4.1.tape,h4.1.output,h4.1.size,h4.1.block⟩,h4.2⟩⟩)
  have D:=hid (D _ h2 hnb hob)
  have h8':∀x∈bs.drop at_,x<=255:=fun x hx=>h8 x (List.mem_of_mem_drop hx)
  have hsp:=tdZ most (bs.drop at_) h8'
  rw[List.length_drop]at hsp
  have eV:tZ most bs at_ 0=(mbZ most (bs.drop at_)).1:=if_neg (by simp)
  have eA:pZ most bs at_ 0=at_+(mbZ most (bs.drop at_)).2.1:=if_neg (by simp)
  have eE:qZ most bs at_ 0=(mbZ most (bs.drop at_)).2.2:=if_neg (by simp)
  rw[eV,eA,eE]
  generalize mbZ most (bs.drop at_)=R at *
  have HK:=hid hk2
  have hgo:w.heap.size+1≠g:=by omega
  have HSP:=hid hsp
  clear hKf h2 hnb hob hk2 h8' hsp eV eA eE
  by_cases hR:R.2.2=0
  ·have hfit:at_+R.2.1<=bs.length:=by have:=HSP.out.2.1;omega
   go_enter Tryz.func86,Tryz.ntmps86
   go_wp2_with fail
   refine D.out.mono ?_
   rintro e w4 ⟨k,e2,w3,⟨hk3,hkk,hee,hblk⟩,hc3,hcase⟩
   rcases hcase with ⟨h0,_,_⟩|⟨_,rfl,rfl⟩
   ·exact absurd (hee.trans hR) h0
   ·have HK3:Hid (Kept (fun x=>x<w.heap.size/\x≠g) w w3):=HK.out.trans ⟨hk3.os,hk3.tape,hk3.output,hk3.size,fun x hx=>hk3.block x (by omega)⟩
    have hB:=hblk.far (fun e=>hgo e) (p:=⟨g,1,none⟩) (.int .i64 (at_+k:Nat))
    have d0:=hB.cell 0
    simp only[List.getElem?_toArray,List.getElem?_cons_zero]at d0
    have HC:=hid (hc3.setAt (at_+k) (by omega))
    rw[hkk]at HC
    have HK4:Hid (Kept (fun x=>x<w.heap.size/\x≠g) w (w3.setCell ⟨g,1,none⟩ (.int .i64 (at_+k:Nat)))):=HK3.out.set (fun h=>h.2 rfl) _
    rw[<-hkk]at HC
    have HC2:Hid (Cur (w3.setCell ⟨g,1,none⟩ (.int .i64 (at_+k:Nat))) g base bs A c (at_+R.2.1) R.2.2):=by rw[hR,<-hkk];exact HC.out
    generalize w3.setCell ⟨g,1,none⟩ (.int .i64 (at_+k:Nat))=w5 at *
    clear hB hblk hc3 hk3 D HK3 HK hkk hee HC hR
    go_wp2_with fail
    go_ret
    exact⟨rfl,HC2.out,HK4.out⟩
  ·have hz:=HSP.out.2.2.2.1 hR
   go_enter Tryz.func86,Tryz.ntmps86
   go_wp2_with fail
   refine D.out.mono ?_
   rintro e w4 ⟨k,e2,w3,⟨hk3,hkk,hee,hblk⟩,hc3,hcase⟩
   rcases hcase with ⟨_,rfl,rfl⟩|⟨h0,_,_⟩
   ·have HK3:Hid (Kept (fun x=>x<w.heap.size/\x≠g) w w3):=HK.out.trans ⟨hk3.os,hk3.tape,hk3.output,hk3.size,fun x hx=>hk3.block x (by omega)⟩
    have HC2:Hid (Cur (w3.setCell ⟨g,2,none⟩ (.int .i64 e2)) g base bs A c (at_+R.2.1) R.2.2):=by rw[hz.2,<-hee];exact hc3.setErr e2
    have HK4:Hid (Kept (fun x=>x<w.heap.size/\x≠g) w (w3.setCell ⟨g,2,none⟩ (.int .i64 e2))):=HK3.out.set (fun h=>h.2 rfl) _
    generalize w3.setCell ⟨g,2,none⟩ (.int .i64 e2)=w5 at *
    have HZ:=hid hz.1
    clear hblk hc3 hk3 D HK3 HK hkk hee hR hz
    go_wp2_with fail
    go_ret
    exact⟨by rw[HZ.out];rfl,HC2.out,HK4.out⟩
   ·exact absurd (hee.symm.trans h0) hR
 ·have D:=hid (plZ _ g base bs A c at_ er h2 he (.func (.func 139) #[] #[.pointer (some ⟨w.heap.size,0,none⟩), .pointer (some ⟨w.heap.size+1,0,none⟩)]))
  have eV:tZ most bs at_ er=0:=if_pos he
  have eA:pZ most bs at_ er=at_:=if_pos he
  have eE:qZ most bs at_ er=er:=if_pos he
  rw[eV,eA,eE]
  have HK:=hid hk2
  have HC:=hid h2
  clear h2 hnb hob hk2 he eV eA eE
  go_enter Tryz.func86,Tryz.ntmps86
  go_wp2_with fail
  refine D.out.mono ?_
  rintro e w4 ⟨rfl,rfl⟩
  go_wp2_with fail
  go_ret
  exact⟨rfl,HC.out,HK.out⟩
end Go.Proofs.YtbgoibedicbkjaaGreatDoor.Nums
namespace Go.Proofs.YtbgoibedicbkjaaGreatDoor.Nums
open Go.RowKit Mem Own Canon
theorem qlZ{P:Program}{w:World}{ops:Array Oper}{o:Oper}{a:Act}{K:Act->World->Prop}{Q:Exit->Act->World->Prop}{E:Prop}(hgd:o.guard=none)(s x:Operand)(t:TypeId)
 (ho:o.op= .call {callee:= .builtin .append,args:=#[s,x],argTypes:=#[t,t] })
 (base:Nat)(e:TypeId)(i:TypeInfo)(z:Value)(size bytes:Nat)(ht:P.underlying t=some (.slice e))(hi:P.info? e=some i)(hz:i.zero=some z)
 (hsize:i.size=size)(hby:i.bytes=bytes)(hzs:z.cells.size=size)(hsz:0<size)
 (v:Value)(n:Nat)(xs:List Value)(hs:a.eval s=v)(hown:w.ownsRow base e size v n xs)
 (A:Option Addr)(m c:Nat)(news:List Value)(hx:a.eval x= .slice A m c)(hsrc:Src w A m c size news)(h1:∀u∈news,u.oneCell'=true)
 (h63:n+m<=maxLen)(hbytes:(n+m)*bytes<=140737488355328)(hbase:base<=w.heap.size)
 (h:∀A' c' w',w'.ownsRow base e size (.slice A' (n+m) c') (n+m) (xs++news)->w.grownBy w' v.ownBlock->K (a.put o.dst (.slice A' (n+m) c')) w'):
 if Region.wanted o (yielded ops a.tmps)=true then Oper.wp P o a w K Q else E:=by
 have hw:Region.wanted o (yielded ops a.tmps)=true:=by simp[Region.wanted,hgd]
 rw[if_pos hw]
 obtain⟨v',w',hr,h2,h3,h5⟩:=ojZ (P:=P) w base t o.type e i z size bytes ht hi hz hsize hby hzs hsz v n xs hown A m c news hsrc h1 h63 hbytes hbase
 obtain⟨A',c',rfl⟩:=bZ h2
 unfold Oper.wp execOp
 simp only[ho,resolve,invoke,builtin,Sem.run_bind,Sem.run_pure,Result.andThen_ok,List.map_toArray,List.map_cons,List.map_nil,hs,hx,hr]
 exact h A' c' w' h2 h3
theorem lcZb(w:World)(A:Option Addr)(n c at_:Nat)(ls:List Nat)(hn:ls.length=n)(hN:n<=100000)(hat:at_<=n)(h8:∀x∈ls,x<=255)(ha:Row w w.heap.size A n 1 (mZ .u8 ls)):
 Calls Tryz.prog 141 #[.slice A n c, .int .i64 at_] w fun e w'=>e= .returned (.tuple #[.int .u64 (bbZ (ls.drop at_) 0 0).1, .int .i64 (at_+(bbZ (ls.drop at_) 0 0).2.1:Nat), .int .i64 (bbZ (ls.drop at_) 0 0).2.2])/\w'=w:=by
 have HA:=hid ha
 have HN:=hid hn
 have H8:=hid h8
 clear ha hn h8
 obtain⟨R,hR⟩:∃R,R=bbZ (ls.drop at_) 0 0:=⟨_,rfl⟩
 rw[<-hR]
 have HR:=hid hR
 clear hR
 go_enter Tryz.func141,Tryz.ntmps141
 go_wp2_with fail
 go_loopw [7,8,9] (fun xv mv i wx=>∃k x m:Nat,at_+k<=n/\k<=9/\xv= .int .u64 x/\mv= .int .u64 m/\i= .int .i64 k/\Hid (x<2 ^ (7*k))/\Hid (m=2 ^ (7*k))/\Hid (bbZ (ls.drop (at_+k)) k x=R)/\wx=w) (fun _ _ i _=>n-(intOf i).toNat)
 case atStart=>exact⟨0,0,1,by omega,by omega,rfl,rfl,rfl,by show _<_;simp,by show _=_;simp,HR.out.symm,rfl⟩
 case round=>
  obtain⟨k,x,m,hk,hk9,rfl,rfl,rfl,hx,hm,hS,rfl⟩:=hrel
  have s0:IntKind.i64.wrap ((at_:Int)+(k:Int))=((at_+k:Nat):Int):=by rw[IntWalk.i64_in _ (by omega)];omega
  obtain⟨j,hj⟩:∃j,j=at_+k:=⟨_,rfl⟩
  rw[<-hj]at s0 hS
  by_cases hlt:j<n
  ·obtain⟨b,off,y,rfl,hb,hy,hc⟩:=kbZ HA.out HN.out hlt
   have hkl:j<ls.length:=by rw[HN.out];exact hlt
   have hy8:y<=255:=H8.out y (List.mem_of_getElem? hy)
   have hs:=hS.out
   rw[List.drop_eq_getElem_cons hkl,bbZ]at hs
   rw[List.getElem?_eq_getElem hkl]at hy
   injection hy with hy
   rw[hy]at hs
   have y0:(0:Int)<=(j:Int):=by omega
   have y1:(j:Int)<(n:Int):=by omega
   have gl:decide ((n:Int)<=(j:Int))=false:=by simp;omega
   have gl':decide (n<=j)=false:=by simp;omega
   have sy:IntKind.u64.wrap (y:Int)=(y:Int):=by rw[IntKind.wrap_u64];omega
   by_cases h9:k=9/\y≠1
   ·rw[if_pos (.inl h9)]at hs
    have g1:((k:Int)==9)=true:=by simp;omega
    have g2:((y:Int) != 1)=true:=by simp;omega
    have HS:=hid hs
    clear hs hS hx hm h9 hy hkl hj
    go_wp2_with fail
    go_ret3
    exact⟨by rw[<-HS.out];rfl,rfl⟩
   ·by_cases h0:0<k/\y=0
    ·rw[if_pos (.inr h0)]at hs
     have g1:((k:Int)==9)=false:=by rw[Bool.eq_false_iff];intro h;simp at h;omega
     have g3:decide (0<k)=true:=by simp;omega
     have g4:((y:Int)==0)=true:=by simp;omega
     have HS:=hid hs
     clear hs hS hx hm h9 h0 hy hkl hj
     go_wp2_with fail
     go_ret3
     exact⟨by rw[<-HS.out];rfl,rfl⟩
    ·rw[if_neg (by omega)]at hs
     have hxx:=hx.out
     obtain⟨E,hE⟩:∃E,E=7*k:=⟨_,rfl⟩
     have hmm:=hm.out
     rw[<-hE]at hs hxx hmm
     obtain⟨c7,hc7⟩:∃c7,c7=y % 128:=⟨_,rfl⟩
     rw[<-hc7]at hs
     obtain⟨x2,hx2⟩:∃x2,x2=x+c7*2 ^ E:=⟨_,rfl⟩
     have hpow:2 ^ E<=2 ^ 63:=Nat.pow_le_pow_right (by omega) (by omega)
     have hmul:c7*2 ^ E<=127*2 ^ E:=Nat.mul_le_mul_right _ (by omega)
     have hx64:x+c7*2 ^ E<18446744073709551616:=by
      by_cases h99:k=9
      ·have:y=1:=by omega
       have e7:c7=1:=by omega
       have e63:E=63:=by omega
       subst e63
       rw[e7]
       have:x<2 ^ 63:=hxx
       omega
      ·have:2 ^ E<=2 ^ 56:=Nat.pow_le_pow_right (by omega) (by omega)
       omega
     obtain⟨t2,ht2⟩:∃t2,t2=c7*2 ^ E:=⟨_,rfl⟩
     have e1:(y:Int) % 128=(c7:Int):=by omega
     have s3:IntKind.u64.wrap ((c7:Int)*(m:Int))=(t2:Int):=by
      rw[IntKind.wrap_u64,ht2,hmm]
      have:((c7:Int)*((2 ^ E:Nat):Int))=((c7*2 ^ E:Nat):Int):=by push_cast;rfl
      rw[this]
      omega
     have s4:IntKind.u64.wrap ((x:Int)+(t2:Int))=(x2:Int):=by
      rw[IntKind.wrap_u64,hx2,<-ht2]
      omega
     rw[<-hx2]at hs
     have hpp:x2<2 ^ (7*(k+1)):=by
      rw[hx2,show 7*(k+1)=E+7 by omega,Nat.pow_add]
      omega
     obtain⟨m2,hm2⟩:∃m2,m2=m*128:=⟨_,rfl⟩
     have hm2':m2=2 ^ (7*(k+1)):=by rw[hm2,hmm,show 7*(k+1)=E+7 by omega,Nat.pow_add]
     have HM2:=hid hm2'
     have H5:k≠9->IntKind.u64.wrap ((m:Int)*128)=(m2:Int):=fun h=>by
      have:2 ^ E<=2 ^ 56:=Nat.pow_le_pow_right (by omega) (by omega)
      rw[IntKind.wrap_u64,hm2]
      omega
     have H5:=hid H5
     have HP:=hid hpp
     have HS:=hid hs
     have H9:Hid (k=9->y=1):=fun h=>by omega
     have HJ:=hid hj
     clear hs hS hx hxx hy hkl hx2 ht2 hc7 hpow hmul hx64 hE hpp hm hmm hm2 hm2' hj
     by_cases hy128:y<128
     ·have g5:decide ((y:Int)<128)=true:=by simp;omega
      have g6:decide (y<128)=true:=by simp;omega
      have hs:=HS.out
      rw[if_pos hy128]at hs
      have HS2:Hid ((x2,k+1,(0:Int))=R):=hs
      have s5:IntKind.i64.wrap ((j:Int)+1)=((at_+(k+1):Nat):Int):=by have:=HJ.out;rw[IntWalk.i64_in _ (by omega)];omega
      clear hs HS hy128 H5 HJ
      by_cases h99:k=9
      ·have g1:((k:Int)==9)=true:=by simp;omega
       have g2:((y:Int) != 1)=false:=by have:=H9.out h99;subst this;rfl
       have g3:decide (0<k)=true:=by simp;omega
       have g4:((y:Int)==0)=false:=by have:=H9.out h99;subst this;rfl
       clear h99 h9 h0
       go_wp2_with fail
       go_ret3
       refine⟨?_,rfl⟩
       rw[<-HS2.out]
       simp
      ·have g1:((k:Int)==9)=false:=by rw[Bool.eq_false_iff];intro h;simp at h;omega
       by_cases h00:k=0
       ·have g3:decide (0<k)=false:=by simp;omega
        clear h99 h00 h9 h0
        go_wp2_with fail
        go_ret3
        refine⟨?_,rfl⟩
        rw[<-HS2.out]
        simp
       ·have g3:decide (0<k)=true:=by simp;omega
        have g4:((y:Int)==0)=false:=by rw[Bool.eq_false_iff];intro h;simp at h;omega
        clear h99 h00 h9 h0
        go_wp2_with fail
        go_ret3
        refine⟨?_,rfl⟩
        rw[<-HS2.out]
        simp
     ·have g5:decide ((y:Int)<128)=false:=by simp;omega
      have g6:decide (y<128)=false:=by simp;omega
      have hs:=HS.out
      rw[if_neg hy128]at hs
      have HS2:Hid (bbZ (ls.drop (at_+(k+1))) (k+1) x2=R):=by have h:=hs;rw[show j+1=at_+(k+1) by have:=HJ.out;omega]at h;exact h
      have hk9':k≠9:=fun h=>by have:=H9.out h;omega
      have s6:=H5.out hk9'
      have s7:IntKind.i64.wrap ((k:Int)+1)=((k+1:Nat):Int):=by rw[IntWalk.i64_in _ (by omega)];omega
      have hk2:at_+(k+1)<=n:=by have:=HJ.out;omega
      clear hs HS hy128 H5 HJ
      by_cases h99:k=9
      ·have g1:((k:Int)==9)=true:=by simp;omega
       have g2:((y:Int) != 1)=false:=by have:=H9.out h99;subst this;rfl
       have g3:decide (0<k)=true:=by simp;omega
       have g4:((y:Int)==0)=false:=by have:=H9.out h99;subst this;rfl
       clear h99 h9 h0
       go_wp2_with fail
       go_roundw
       case measure=>go_light;simp[intOf];omega
       case rel=>go_light;exact⟨k+1,x2,m2,by omega,by omega,by first|rfl|trivial,by first|rfl|trivial,by go_num,HP.out,HM2.out,HS2.out,by first|rfl|trivial⟩
      ·have g1:((k:Int)==9)=false:=by rw[Bool.eq_false_iff];intro h;simp at h;omega
       by_cases h00:k=0
       ·have g3:decide (0<k)=false:=by simp;omega
        clear h99 h00 h9 h0
        go_wp2_with fail
        go_roundw
        case measure=>go_light;simp[intOf];omega
        case rel=>go_light;exact⟨k+1,x2,m2,by omega,by omega,by first|rfl|trivial,by first|rfl|trivial,by go_num,HP.out,HM2.out,HS2.out,by first|rfl|trivial⟩
       ·have g3:decide (0<k)=true:=by simp;omega
        have g4:((y:Int)==0)=false:=by rw[Bool.eq_false_iff];intro h;simp at h;omega
        clear h99 h00 h9 h0
        go_wp2_with fail
        go_roundw
        case measure=>go_light;simp[intOf];omega
        case rel=>go_light;exact⟨k+1,x2,m2,by omega,by omega,by first|rfl|trivial,by first|rfl|trivial,by go_num,HP.out,HM2.out,HS2.out,by first|rfl|trivial⟩
  ·obtain rfl:j=n:=by omega
   have hs:=hS.out
   rw[List.drop_of_length_le (by rw[HN.out];exact Nat.le_refl _),bbZ]at hs
   have HS:=hid hs
   have gl:decide ((j:Int)<=(j:Int))=true:=by simp
   have gl':decide (j<=j)=true:=by simp
   clear hs hS hx hm hj
   go_wp2_with fail
   go_ret3
   exact⟨by rw[<-HS.out];rfl,rfl⟩
structure RCur (w:World) (g base:Nat) (bs:List Nat) (A:Option Addr) (c at_:Nat) (er:Int):Prop where
 blk:Blk w g 87 #[.slice A bs.length c, .int .i64 at_, .int .i64 er]
 own:w.ownsRow base 5 1 (.slice A bs.length c) bs.length (cZ .u8 bs)
 le:at_<=bs.length
 lo:base<=g
section
variable {w w':World} {g base:Nat} {bs:List Nat} {A:Option Addr} {c at_:Nat} {er:Int}
theorem RCur.drewN(h:RCur w g base bs A c at_ er)(q:Nat):RCur (w.drewN q) g base bs A c at_ er:=⟨h.blk,h.own,h.le,h.lo⟩
theorem RCur.step(h:RCur w g base bs A c at_ er)(hb:Below w.heap.size w w'):RCur w' g base bs A c at_ er:=
 ⟨h.blk.step hb,eZ h.own (fun x hx=>hb.block x (World.ownsRow.lt h.own x hx).2),h.le,h.lo⟩
theorem RCur.cells(h:RCur w g base bs A c at_ er):w.cell? ⟨g,0,none⟩=some (.slice A bs.length c)/\w.cell? ⟨g,1,none⟩=some (.int .i64 at_)/\w.cell? ⟨g,2,none⟩=some (.int .i64 er):=⟨h.blk.cell 0,h.blk.cell 1,h.blk.cell 2⟩
theorem RCur.setErr(h:RCur w g base bs A c at_ er)(e2:Int):RCur (w.setCell ⟨g,2,none⟩ (.int .i64 e2)) g base bs A c at_ e2:=
 ⟨h.blk.set 2 _,eZ h.own (fun x hx=>Below.heap_setCell w _ _ x (fun e=>jZ h.own h.blk (by decide) (hx.trans (congrArg some e)))),h.le,h.lo⟩
theorem RCur.setAt(h:RCur w g base bs A c at_ er)(at2:Nat)(h2:at2<=bs.length):RCur (w.setCell ⟨g,1,none⟩ (.int .i64 at2)) g base bs A c at2 er:=
 ⟨h.blk.set 1 _,eZ h.own (fun x hx=>Below.heap_setCell w _ _ x (fun e=>jZ h.own h.blk (by decide) (hx.trans (congrArg some e)))),h2,h.lo⟩
theorem RCur.row(h:RCur w g base bs A c at_ er):Row w w.heap.size A bs.length 1 (mZ .u8 bs):=own_row h.own
end
theorem xmZ{w:World}{base:Nat}(hb:base<=w.heap.size):(w.alloc (.cells #[] 5)).ownsRow base 5 1 (.slice (some ⟨w.heap.size,0,none⟩) 0 0) 0 []:=
 ⟨rfl, .inr ⟨w.heap.size,0,#[],rfl,hb,heap_alloc_new w _,Nat.le_refl _,by unfold maxLen;omega,rfl,rfl⟩⟩
theorem rnew_any(w:World)(A:Option Addr)(n c:Nat)(ls:List Nat)(hn:ls.length=n)(hle:n<=100000)(hnil:A=none->n=0/\c=0)(ha:Row w w.heap.size A n 1 (mZ .u8 ls)):
 Calls Tryz.prog 37 #[.slice A n c] w fun e w'=>∃g B d,e= .returned (.pointer (some ⟨g,0,none⟩))/\RCur w' g w.heap.size ls B d 0 0/\Below w.heap.size w w':=by
 obtain⟨j0,hj0,hy0,hy1,hy2⟩:=info_parts acZ
 have HB1:Hid (Below w.heap.size w (w.alloc (.cells #[] 5))):=aZ (Below.refl _ _)
 have HS:=hid (ugZ ((ha.below HB1.out).mono HB1.out.size) hn hnil)
 have HO:=hid (xmZ (w:=w) (Nat.le_refl _))
 have HN:=hid hn
 have hz1:=HB1.out.size
 clear hn hnil ha
 go_enter Tryz.func37,Tryz.ntmps37
 go_wp2_with(at_builtin;refine kZ rfl (.tmp 3) (.tmp 4) 22 rfl w.heap.size 5 j0 _ 1 1 Tryz.underlying22 hj0 hy0 hy1 hy2 rfl (by decide) _ _ _ (by rfl) HO.out _ _ _ _ (by rfl) HS.out (wZ _ _) (by unfold maxLen;omega) (by omega) hz1 ?_;intro v4 w4 hown4 hg4 hat4;have HB4:Hid (Below w.heap.size w w4):=HB1.out.grown hg4 hz1 (fun y hy=>(World.ownsRow.lt HO.out y hy).1);obtain⟨B,d,rfl⟩:=bZ hown4;have HO4:Hid (w4.ownsRow w.heap.size 5 1 (.slice B (0+n) d) (0+n) (cZ .u8 ls)):=hown4;clear hown4 hg4 hat4)
 have hz:=HB4.out.size
 go_ret
 refine⟨w4.heap.size,B,d,rfl,⟨?_,?_,Nat.zero_le _,hz⟩,gZ hz HB4.out⟩
 ·rw[HN.out,<-Nat.zero_add n];exact Blk.made _ _ _
 ·have h:=HO4.out.alloc (.cells #[.slice B (0+n) d, .int .i64 0, .int .i64 0] 87)
  rw[HN.out]
  rw[Nat.zero_add]at h
  exact h
theorem rleft_any(w:World)(g base:Nat)(bs:List Nat)(A:Option Addr)(c at_:Nat)(er:Int)(hle:bs.length<=100000)(h:RCur w g base bs A c at_ er):
 Calls Tryz.prog 91 #[.pointer (some ⟨g,0,none⟩)] w fun e w'=>e= .returned (.int .i64 (bs.length-at_:Nat))/\∃q,w'=w.drewN q:=by
 obtain⟨d0,d1,d2⟩:=h.cells
 have hat:=h.le
 have s1:IntKind.i64.wrap ((bs.length:Int)-(at_:Int))=((bs.length-at_:Nat):Int):=by rw[IntWalk.i64_in _ (by omega)];omega
 generalize bs.length-at_=m at *
 generalize bs.length=n at *
 clear h hat
 go_enter Tryz.func91,Tryz.ntmps91
 go_wp2_with fail
 go_quiet (fail)
 go_wp2_with fail
 go_ret
 exact⟨rfl,_,rfl⟩
theorem mcZb(w:World)(g base:Nat)(bs:List Nat)(A:Option Addr)(c at_:Nat)(er e2:Int)(h:RCur w g base bs A c at_ er):
 Calls Tryz.prog 41 #[.pointer (some ⟨g,0,none⟩), .int .i64 e2] w fun e w'=>e= .returned (.tuple #[])/\RCur w' g base bs A c at_ (ygZ er e2)/\Kept (fun x=>x≠g) w w':=by
 obtain⟨d0,d1,d2⟩:=h.cells
 have f2:=h.blk.frozen 2
 have H:=hid h
 clear h
 unfold ygZ
 by_cases he:er=0
 ·subst he
  rw[if_pos rfl]
  go_enter Tryz.func41,Tryz.ntmps41
  go_wp2_with fail
  refine bodyPost_end (results_none rfl _ _ _) rfl ?_
  exact⟨rfl,H.out.setErr e2,(Kept.refl _ _).set (fun h=>h rfl) _⟩
 ·rw[if_neg he]
  have g1:(er==0)=false:=by simpa using he
  clear he
  go_enter Tryz.func41,Tryz.ntmps41
  go_wp2_with fail
  refine bodyPost_end (results_none rfl _ _ _) rfl ?_
  exact⟨rfl,H.out,Kept.refl _ _⟩
end Go.Proofs.YtbgoibedicbkjaaGreatDoor.Nums
namespace Go.Proofs.YtbgoibedicbkjaaGreatDoor.Nums
open Go.RowKit Mem Own Canon
def ggZ(w:World)(g base:Nat)(bs:List Nat)(A:Option Addr)(c at_:Nat)(er:Int)(n:Nat)(e:Ending)(w':World):Prop:=
 ∃v,e= .returned v/\w'.ownsRow w.heap.size 5 1 v (fbZ bs at_ er n).length (cZ .u8 (fbZ bs at_ er n))/\RCur w' g base bs A c (takeA bs at_ er n) (gbZ bs at_ er n)/\Kept (ebZ g w) w w'
theorem pjZb{w:World}{B c n k m:Nat}{A:Option Addr}{bs:List Nat}(h:Row w B A n 1 (mZ .u8 bs))(hn:bs.length=n)(hk:k+m<=n)(hc:n<=c)(hnil:A=none->n=0/\c=0):Src w (sZ A k c 1) m (c-k) 1 (cZ .u8 ((bs.drop k).take m)):=by
 have hr:Row w B (sZ A k c 1) m 1 (mZ .u8 ((bs.drop k).take m)):=h.cut k m hk hc (fun i j hi hj=>by
  obtain rfl:j=0:=by omega
  simp only[mZ,List.getD_eq_getElem?_getD,List.getElem?_take,List.getElem?_drop]
  rw[if_pos hi])
 refine ugZ hr (by rw[List.length_take,List.length_drop];omega) (fun e=> ?_)
 have hA:A=none:=by
  unfold sZ at e
  split at e
  ·exact e
  ·cases A with
   |none=>rfl
   |some a=>cases e
 have:=hnil hA
 omega
theorem nhZ(w:World)(g base:Nat)(bs:List Nat)(A:Option Addr)(c at_:Nat)(er:Int)(n:Nat)(hle:bs.length<=100000)(hn:n<=1000000000)(h:RCur w g base bs A c at_ er):
 Calls Tryz.prog 38 #[.pointer (some ⟨g,0,none⟩), .int .i64 n] w (ggZ w g base bs A c at_ er n):=by
 obtain⟨j0,hj0,hy0,hy1,hy2⟩:=info_parts acZ
 obtain⟨d0,d1,d2⟩:=h.cells
 have f1:=h.blk.frozen 1
 have f2:=h.blk.frozen 2
 have hat:=h.le
 have hgl:=h.blk.lt
 have H:=hid h
 have g0:decide ((n:Int)<0)=false:=by simp
 unfold ggZ
 by_cases he:er=0
 ·subst he
  have D:=hid (rleft_any w g base bs A c at_ 0 hle h)
  by_cases hlt:bs.length-at_<n
  ·have eO:fbZ bs at_ 0 n= []:=(vhZ _ _ _).trans (if_pos hlt)
   have eA:takeA bs at_ 0 n=at_:=(vjZ _ _ _).trans (if_pos hlt)
   have eE:gbZ bs at_ 0 n=1:=(wjZ _ _ _).trans (if_pos hlt)
   rw[eO,eA,eE]
   have g1:decide (((bs.length-at_:Nat):Int)<(n:Int))=true:=by simp;omega
   have g1':decide (bs.length-at_<n)=true:=by simp;omega
   generalize bs.length-at_=m at *
   clear eO eA eE h hlt
   go_enter Tryz.func38,Tryz.ntmps38
   go_wp2_with fail
   refine D.out.mono ?_
   rintro e w1 ⟨rfl,q,rfl⟩
   have H1:Hid (RCur (w.drewN q) g base bs A c at_ 0):=H.out.drewN q
   clear D
   go_wp2_with fail
   go_ret
   exact⟨_,rfl,World.ownsRow_nil _ _ _ _,H1.out.setErr 1,(Kept.of_below (B:=w.heap.size) (by(repeat(first|(with_reducible first|exact Below.refl _ _|assumption|refine Below.drew ?_|refine below_drewN ?_ _|refine aZ ?_|refine dZ (by assumption) ?_)|((with_reducible first|refine fZ ?_ ?_|refine gZ ?_ ?_|refine iZ (by assumption) ?_ ?_);(focus(first|(simp;done)|(simp;omega)|omega|(simp at *;omega))))))) (fun x hx=>hx.1)).set (fun h=>h.2 rfl) _⟩
  ·have eO:fbZ bs at_ 0 n=(bs.drop at_).take n:=(vhZ _ _ _).trans (if_neg hlt)
   have eA:takeA bs at_ 0 n=at_+n:=(vjZ _ _ _).trans (if_neg hlt)
   have eE:gbZ bs at_ 0 n=0:=(wjZ _ _ _).trans (if_neg hlt)
   rw[eO,eA,eE]
   have g1:decide (((bs.length-at_:Nat):Int)<(n:Int))=false:=by simp;omega
   have g1':decide (bs.length-at_<n)=false:=by simp;omega
   have hl:at_+n<=bs.length:=by omega
   have hwf:=lfZ h.own
   have hcc:=hwf.2
   have hAC:A=none->c=0:=fun e=>(hwf.1 e).2
   have HSR:Hid (∀wx,Below w.heap.size w wx->Src wx (sZ A at_ c 1) n (c-at_) 1 (cZ .u8 ((bs.drop at_).take n))):=fun wx hb=>pjZb (h.row.below hb) rfl hl hwf.2 hwf.1
   have ks:=fun wx=>ihZ (P:=Tryz.prog) (t:=22) (s:=1) Tryz.underlying22 (fun _=>by kernel_rfl) A bs.length c .i64 .i64 (at_:Int) ((at_+n:Nat):Int) at_ (at_+n) rfl rfl (by omega) (by omega) wx
   rw[Nat.add_sub_cancel_left]at ks
   have hLL:((bs.drop at_).take n).length=n:=by rw[List.length_take,List.length_drop];omega
   have s1:IntKind.i64.wrap ((at_:Int)+(n:Int))=((at_+n:Nat):Int):=by rw[IntWalk.i64_in _ (by omega)];omega
   rw[hLL]
   generalize (bs.drop at_).take n=L at *
   generalize bs.length-at_=m at *
   obtain⟨k,hk⟩:∃k,k=at_+n:=⟨_,rfl⟩
   have HKE:=hid hk
   rw[<-hk]at ks s1 hl ⊢
   generalize sZ A at_ c 1=AC at *
   generalize c-at_=cc at *
   obtain⟨N,hN⟩:∃N,N=bs.length:=⟨_,rfl⟩
   rw[<-hN]at d0 ks hle hl hat
   have HNE:=hid hN
   clear eO eA eE h hlt hwf hLL hk hN
   go_enter Tryz.func38,Tryz.ntmps38
   go_wp2_with fail
   refine D.out.mono ?_
   rintro e w1 ⟨rfl,q,rfl⟩
   have H1:Hid (RCur (w.drewN q) g base bs A c at_ 0):=H.out.drewN q
   clear D
   go_upto_region 9 with fail
   have HB1:=hid (show Below w.heap.size w ((w.drewN (q+1)).alloc (.cells #[] 5)) by(repeat(first|(with_reducible first|exact Below.refl _ _|assumption|refine Below.drew ?_|refine below_drewN ?_ _|refine aZ ?_|refine dZ (by assumption) ?_)|((with_reducible first|refine fZ ?_ ?_|refine gZ ?_ ?_|refine iZ (by assumption) ?_ ?_);(focus(first|(simp;done)|(simp;omega)|omega|(simp at *;omega)))))))
   have HO:=hid (xmZ (w:=w.drewN (q+1)) (base:=w.heap.size) (Nat.le_refl _))
   have HS:=hid (HSR.out _ HB1.out)
   have hz1:=HB1.out.size
   have HK1:=hid (H.out.step HB1.out)
   have z0:((w.drewN (q+1)).alloc (.cells #[] 5)).cell? ⟨g,0,none⟩=some (.slice A N c):=by rw[HNE.out];exact HK1.out.cells.1
   have z1:((w.drewN (q+1)).alloc (.cells #[] 5)).cell? ⟨g,1,none⟩=some (.int .i64 at_):=HK1.out.cells.2.1
   clear HSR
   go_region_held3 (fun wx=>wx.cell? ⟨g,0,none⟩=some (.slice A N c)/\wx.cell? ⟨g,1,none⟩=some (.int .i64 at_)) (first|exact⟨d0,d1⟩|exact⟨z0,z1⟩|exact⟨y0,y1⟩)
    ((refine qlZ rfl (.tmp 23) (.tmp 38) 22 rfl w.heap.size 5 j0 _ 1 1 Tryz.underlying22 hj0 hy0 hy1 hy2 rfl (by decide) _ _ _ (by rfl) HO.out _ _ _ _ (by rfl) HS.out (wZ _ _) (by unfold maxLen;omega) (by omega) hz1 ?_;intro A5 c5 w5 hown5 hg5;have hB5:Below w.heap.size w w5:=HB1.out.grown hg5 hz1 (fun y hy=>(World.ownsRow.lt HO.out y hy).1);have H5:=H.out.step hB5;have y0:w5.cell? ⟨g,0,none⟩=some (.slice A N c):=by{rw[HNE.out];exact H5.cells.1};have y1:w5.cell? ⟨g,1,none⟩=some (.int .i64 at_):=H5.cells.2.1;have yf:=H5.blk.frozen 1))
   have HB5:=hid hB5
   have HR5:=hid H5
   have HO5:Hid (w5.ownsRow w.heap.size 5 1 (.slice A5 (0+n) c5) (0+n) (cZ .u8 L)):=hown5
   clear hown5 hg5 hB5 H5 HO HS HB1 HK1 z0 z1 d0 d1 d2 f1 f2
   go_wp2_with fail
   go_ret
   refine⟨_,rfl,?_,HR5.out.setAt k (by rw[<-HNE.out];exact hl),(Kept.of_below (B:=w.heap.size) HB5.out (fun x hx=>hx.1)).set (fun h=>h.2 rfl) _⟩
   have h:=vZ (p:=⟨g,1,none⟩) HO5.out (jZ HO5.out HR5.out.blk (by decide)) (.int .i64 (k:Nat))
   rw[Nat.zero_add]at h
   exact h
 ·have g1:(er != 0)=true:=by simpa using he
  have eO:fbZ bs at_ er n= []:=if_pos he
  have eA:takeA bs at_ er n=at_:=if_pos he
  have eE:gbZ bs at_ er n=er:=if_pos he
  rw[eO,eA,eE]
  clear eO eA eE h he
  go_enter Tryz.func38,Tryz.ntmps38
  go_wp2_with fail
  go_ret
  exact⟨_,rfl,World.ownsRow_nil _ _ _ _,H.out,Kept.refl _ _⟩
theorem tsZ(w:World)(g base:Nat)(bs:List Nat)(A:Option Addr)(c at_:Nat)(er:Int)(hle:bs.length<=100000)(h:RCur w g base bs A c at_ er):
 Calls Tryz.prog 40 #[.pointer (some ⟨g,0,none⟩)] w fun e w'=>e= .returned (.int .u8 (yeZ bs at_ er:Nat))/\RCur w' g base bs A c (takeA bs at_ er 1) (gbZ bs at_ er 1)/\Kept (ebZ g w) w w':=by
 have D:=nhZ w g base bs A c at_ er 1 hle (by omega) h
 unfold ggZ at D
 by_cases hc:er=0/\at_<bs.length
 ·have hO:fbZ bs at_ er 1= [bs.getD at_ 0]:=by
   rw[hc.1,vhZ,if_neg (by omega),List.drop_eq_getElem_cons hc.2,List.getD_eq_getElem?_getD,List.getElem?_eq_getElem hc.2]
   rfl
  have hV:yeZ bs at_ er=bs.getD at_ 0:=if_neg (by simp[hc.1])
  rw[hO]at D
  rw[hV]
  have D:=hid D
  clear hO hV hc h
  generalize bs.getD at_ 0=x at *
  go_enter Tryz.func40,Tryz.ntmps40
  go_wp2_with fail
  refine D.out.mono ?_
  rintro e w1 ⟨v,rfl,hown,hc,hk⟩
  obtain⟨g2,c2,hv,_⟩:=hown.form (by simp)
  subst hv
  have c0:=hown.cellAt 0 (by simp)
  simp only[cZ,List.map_cons,List.map_nil]at c0
  have HC:=hid hc
  have HK:=hid hk
  clear hown hc hk D
  go_wp2_with fail
  go_ret
  exact⟨rfl,HC.out,HK.out⟩
 ·have hO:fbZ bs at_ er 1= []:=by
   by_cases he:er=0
   ·rw[he,vhZ,if_pos (by omega)]
   ·exact if_pos he
  have hV:yeZ bs at_ er=0:=by
   unfold yeZ
   split
   ·rfl
   ·rw[List.getD_eq_getElem?_getD,List.getElem?_eq_none (by omega)];rfl
  rw[hO]at D
  rw[hV]
  have D:=hid D
  clear hO hV hc h
  go_enter Tryz.func40,Tryz.ntmps40
  go_wp2_with fail
  refine D.out.mono ?_
  rintro e w1 ⟨v,rfl,hown,hc,hk⟩
  obtain⟨A2,c2,rfl⟩:=bZ hown
  have HC:=hid hc
  have HK:=hid hk
  simp only[List.length_nil]at hown
  clear hown hc hk D
  go_wp2_with fail
  go_ret
  exact⟨rfl,HC.out,HK.out⟩
def heZ(bs:List Nat)(at_:Nat)(er:Int):Nat:=if er≠0 then 0 else(bbZ (bs.drop at_) 0 0).1
def vfZ(bs:List Nat)(at_:Nat)(er:Int):Nat:=if er≠0 then at_ else at_+(bbZ (bs.drop at_) 0 0).2.1
def wfZ(bs:List Nat)(at_:Nat)(er:Int):Int:=if er≠0 then er else(bbZ (bs.drop at_) 0 0).2.2
theorem qjZb{bs:List Nat}(h8:∀x∈bs,x<=255){at_:Nat}(er:Int)(h:at_<=bs.length):vfZ bs at_ er<=bs.length:=by
 unfold vfZ
 split
 ·exact h
 ·have:=(ydZ (bs.drop at_) 0 0 (fun x hx=>h8 x (List.mem_of_mem_drop hx)) (by omega) (by simp)).2.1
  rw[List.length_drop]at this
  omega
theorem usZ(w:World)(g base:Nat)(bs:List Nat)(A:Option Addr)(c at_:Nat)(er:Int)(hle:bs.length<=100000)(h8:∀x∈bs,x<=255)(h:RCur w g base bs A c at_ er):
 Calls Tryz.prog 92 #[.pointer (some ⟨g,0,none⟩)] w fun e w'=>e= .returned (.int .u64 (heZ bs at_ er:Nat))/\RCur w' g base bs A c (vfZ bs at_ er) (wfZ bs at_ er)/\Kept (ebZ g w) w w':=by
 obtain⟨d0,d1,d2⟩:=h.cells
 have f1:=h.blk.frozen 1
 have f2:=h.blk.frozen 2
 have hAl:=qjZb h8 er h.le
 have H:=hid h
 by_cases he:er=0
 ·subst he
  have D:=hid (fun q=>lcZb (w.drewN q) A bs.length c at_ bs rfl hle h.le h8 (h.drewN q).row)
  have eV:heZ bs at_ 0=(bbZ (bs.drop at_) 0 0).1:=if_neg (by simp)
  have eA:vfZ bs at_ 0=at_+(bbZ (bs.drop at_) 0 0).2.1:=if_neg (by simp)
  have eE:wfZ bs at_ 0=(bbZ (bs.drop at_) 0 0).2.2:=if_neg (by simp)
  rw[<-eV,<-eA,<-eE]at D
  generalize heZ bs at_ 0=V at *
  generalize vfZ bs at_ 0=P at *
  generalize wfZ bs at_ 0=E at *
  clear eV eA eE h
  obtain⟨N,hN⟩:∃N,N=bs.length:=⟨_,rfl⟩
  rw[<-hN]at d0 D hAl
  have HNE:=hid hN
  clear hN
  go_enter Tryz.func92,Tryz.ntmps92
  go_wp2_with fail
  go_quiet ((go_at_call 141;exact Calls.quiet_of_same (D.out _)))
  go_wp2_with fail
  go_ret
  exact⟨rfl,(((H.out.drewN _).setAt P (by rw[<-HNE.out];exact hAl)).setErr E),((Kept.of_below (B:=w.heap.size) (by(repeat(first|(with_reducible first|exact Below.refl _ _|assumption|refine Below.drew ?_|refine below_drewN ?_ _|refine aZ ?_|refine dZ (by assumption) ?_)|((with_reducible first|refine fZ ?_ ?_|refine gZ ?_ ?_|refine iZ (by assumption) ?_ ?_);(focus(first|(simp;done)|(simp;omega)|omega|(simp at *;omega))))))) (fun x hx=>hx.1)).set (fun h=>h.2 rfl) _).set (fun h=>h.2 rfl) _⟩
 ·have g1:(er != 0)=true:=by simpa using he
  have eV:heZ bs at_ er=0:=if_pos he
  have eA:vfZ bs at_ er=at_:=if_pos he
  have eE:wfZ bs at_ er=er:=if_pos he
  rw[eV,eA,eE]
  clear eV eA eE h he hAl
  go_enter Tryz.func92,Tryz.ntmps92
  go_wp2_with fail
  go_ret
  exact⟨rfl,H.out,Kept.refl _ _⟩
theorem qfZ(w:World)(g base:Nat)(bs:List Nat)(A:Option Addr)(c at_:Nat)(er:Int)(most:Nat)(hle:bs.length<=100000)(h8:∀x∈bs,x<=255)(hmost:most<=1000000000)(h:RCur w g base bs A c at_ er):
 Calls Tryz.prog 39 #[.pointer (some ⟨g,0,none⟩), .int .i64 most] w fun e w'=>e= .returned (.int .i64 (tZ most bs at_ er:Nat))/\RCur w' g base bs A c (pZ most bs at_ er) (qZ most bs at_ er)/\Kept (ebZ g w) w w':=by
 obtain⟨d0,d1,d2⟩:=h.cells
 have D:=hid (usZ w g base bs A c at_ er hle h8 h)
 have hat:=h.le
 have g0:decide ((most:Int)<0)=false:=by simp
 have u1:IntKind.u64.wrap (most:Int)=(most:Int):=by rw[IntKind.wrap_u64];omega
 have hV:er=0->heZ bs at_ er=(bbZ (bs.drop at_) 0 0).1/\vfZ bs at_ er=at_+(bbZ (bs.drop at_) 0 0).2.1/\wfZ bs at_ er=(bbZ (bs.drop at_) 0 0).2.2:=fun he=>⟨if_neg (by simp[he]),if_neg (by simp[he]),if_neg (by simp[he])⟩
 have hsp:=ydZ (bs.drop at_) 0 0 (fun x hx=>h8 x (List.mem_of_mem_drop hx)) (by omega) (by simp)
 have key:(wfZ bs at_ er≠0->tZ most bs at_ er=0/\pZ most bs at_ er=vfZ bs at_ er/\qZ most bs at_ er=wfZ bs at_ er)/\(wfZ bs at_ er=0->most<heZ bs at_ er->tZ most bs at_ er=0/\pZ most bs at_ er=at_/\qZ most bs at_ er=6)/\(wfZ bs at_ er=0->¬most<heZ bs at_ er->tZ most bs at_ er=heZ bs at_ er/\pZ most bs at_ er=vfZ bs at_ er/\qZ most bs at_ er=0):=by
  by_cases he:er=0
  ·obtain⟨e1,e2,e3⟩:=hV he
   have i1:tZ most bs at_ er=(mbZ most (bs.drop at_)).1:=if_neg (by simp[he])
   have i2:pZ most bs at_ er=at_+(mbZ most (bs.drop at_)).2.1:=if_neg (by simp[he])
   have i3:qZ most bs at_ er=(mbZ most (bs.drop at_)).2.2:=if_neg (by simp[he])
   rw[e1,e2,e3,i1,i2,i3]
   unfold mbZ
   generalize bbZ (bs.drop at_) 0 0=R at *
   refine⟨fun h=> ?_,fun h h2=> ?_,fun h h2=> ?_⟩
   ·rw[if_pos h];exact⟨rfl,by have:=hsp.2.2.2.1 h;simp[this.2],rfl⟩
   ·rw[if_neg (by simp[h]),if_pos h2];exact⟨rfl,rfl,rfl⟩
   ·rw[if_neg (by simp[h]),if_neg h2];exact⟨rfl,rfl,h⟩
  ·have e1:heZ bs at_ er=0:=if_pos he
   have e2:vfZ bs at_ er=at_:=if_pos he
   have e3:wfZ bs at_ er=er:=if_pos he
   have i1:tZ most bs at_ er=0:=if_pos he
   have i2:pZ most bs at_ er=at_:=if_pos he
   have i3:qZ most bs at_ er=er:=if_pos he
   rw[e1,e2,e3,i1,i2,i3]
   exact⟨fun _=>⟨rfl,rfl,rfl⟩,fun h=>absurd h he,fun h=>absurd h he⟩
 have hv64:heZ bs at_ er<18446744073709551616:=by
  by_cases he:er=0
  ·rw[(hV he).1];exact hsp.1
  ·rw[show heZ bs at_ er=0 from if_pos he];omega
 have hIA:pZ most bs at_ er<=bs.length:=by
  unfold pZ
  split
  ·exact hat
  ·have:=(tdZ most (bs.drop at_) (fun x hx=>h8 x (List.mem_of_mem_drop hx))).2.1
   rw[List.length_drop]at this
   omega
 generalize tZ most bs at_ er=IV at *
 generalize pZ most bs at_ er=IA at *
 generalize qZ most bs at_ er=IE at *
 generalize heZ bs at_ er=V at *
 generalize vfZ bs at_ er=NA at *
 generalize wfZ bs at_ er=E at *
 clear hV hsp h8 h
 by_cases hE:E=0
 ·by_cases hlim:most<V
  ·obtain⟨rfl,rfl,rfl⟩:=key.2.1 hE hlim
   have g1:(E != 0)=false:=by simp[hE]
   have g2:decide ((most:Int)<(V:Int))=true:=by simp;omega
   have g2':decide (most<V)=true:=by simp;omega
   have HE:=hid hE
   clear key hE hlim
   go_enter Tryz.func39,Tryz.ntmps39
   go_wp2_with fail
   refine D.out.mono ?_
   rintro e w1 ⟨rfl,hc,hk⟩
   have HC:=hid hc
   have HK:=hid hk
   have e1:=hc.cells.2.1
   have d2:=hc.cells.2.2
   have f1:=hc.blk.frozen 1
   have f2:=hc.blk.frozen 2
   clear hc hk D d0
   go_wp2_with fail
   go_ret
   exact⟨rfl,(HC.out.setAt _ hIA).setErr 6,(HK.out.set (fun h=>h.2 rfl) _).set (fun h=>h.2 rfl) _⟩
  ·obtain⟨rfl,rfl,rfl⟩:=key.2.2 hE hlim
   have g1:(E != 0)=false:=by simp[hE]
   have g2:decide ((most:Int)<(IV:Int))=false:=by simp;omega
   have g2':decide (most<IV)=false:=by simp;omega
   have s2:IntKind.i64.wrap (IV:Int)=(IV:Int):=by rw[IntWalk.i64_in _ (by omega)]
   have HE:=hid hE
   clear key hE hlim
   go_enter Tryz.func39,Tryz.ntmps39
   go_wp2_with fail
   refine D.out.mono ?_
   rintro e w1 ⟨rfl,hc,hk⟩
   have HC:=hid hc
   have HK:=hid hk
   have d2:=hc.cells.2.2
   clear hc hk D d0 d1
   go_wp2_with fail
   go_ret
   exact⟨rfl,by rw[<-HE.out];exact HC.out,HK.out⟩
 ·obtain⟨rfl,rfl,rfl⟩:=key.1 hE
  have g1:(IE != 0)=true:=by simpa using hE
  clear key hE
  go_enter Tryz.func39,Tryz.ntmps39
  go_wp2_with fail
  refine D.out.mono ?_
  rintro e w1 ⟨rfl,hc,hk⟩
  have HC:=hid hc
  have HK:=hid hk
  have d2:=hc.cells.2.2
  clear hc hk D d0 d1
  go_wp2_with fail
  go_ret
  exact⟨rfl,HC.out,HK.out⟩
end Go.Proofs.YtbgoibedicbkjaaGreatDoor.Nums
namespace Go.Proofs.YtbgoibedicbkjaaGreatDoor.Body
open Go.RowKit Mem Own Canon Nums
theorem lxZ(w:World)(gb base n c:Nat)(A:Option Addr)(xs:List Value)(hc:w.cell? ⟨gb,0,none⟩=some (.slice A n c))(hle:n<=3000000)(ho:w.ownsRow base 3 1 (.slice A n c) n xs)(hone:∀u∈xs,u.oneCell'=true):
 Calls Tryz.prog 12 #[.pointer (some ⟨gb,0,none⟩)] w fun e w'=>∃v,e= .returned v/\w'.ownsRow w.heap.size 3 1 v n xs/\Below w.heap.size w w':=by
 have D:=hid (rtZ w base A n c xs hle ho hone)
 clear ho hone
 go_enter Tryz.func12,Tryz.ntmps12
 go_wp2_with fail
 refine D.out.mono ?_
 rintro e w1 ⟨v,rfl,ho,hb⟩
 obtain⟨A1,c1,rfl⟩:=bZ ho
 have HO:=hid ho
 have HB:=hid hb
 clear ho hb D
 go_wp2_with fail
 go_ret
 exact⟨_,rfl,HO.out,HB.out⟩
end Go.Proofs.YtbgoibedicbkjaaGreatDoor.Body
