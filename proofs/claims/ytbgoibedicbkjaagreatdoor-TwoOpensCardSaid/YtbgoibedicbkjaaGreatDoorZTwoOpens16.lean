/- The walk of bits' row.add: one bit more. The walk of bits' Writer.Put: -/
import Derived.Test.YtbgoibedicbkjaaGreatDoorZTwoOpens1
import Derived.Test.YtbgoibedicbkjaaGreatDoorZTwoOpens3
import Derived.Test.YtbgoibedicbkjaaGreatDoorZTwoOpens2
import Derived.BigRegion
import Derived.Deep.DeepCutAuto
import Derived.Laws.BitsLemmas
import Derived.Deep.RegionHeld3
import Derived.BigGuardPart
import Derived.Laws.Bits64b
namespace Go.Proofs.YtbgoibedicbkjaaGreatDoor end Go.Proofs.YtbgoibedicbkjaaGreatDoor open Go.Proofs.YtbgoibedicbkjaaGreatDoor
open Go.Lib (hid)
set_option maxRecDepth 100000
namespace Go.Proofs.YtbgoibedicbkjaaGreatDoor.Huff
open Go.RowKit Mem Canon Own
structure Wr (K:Nat->Prop) (w:World) (base g:Nat) (t:TypeId) (rest:List Value) (bs:List Bool) (v:Value):Prop where
 blk:Blk w g t (List.toArray (v :: .int .i64 (bs.length:Nat) :: rest))
 own:w.ownsRow base 5 1 v (bytesOf bs).length (cZ .u8 (bytesOf bs))
 ne:v.ownBlock≠some g
 base:base<=w.heap.size
 kg:¬K g
 kv:∀x,v.ownBlock=some x->¬K x
 kK:∀k,K k->k<w.heap.size
theorem Wr.drew{K:Nat->Prop}{w:World}{base g:Nat}{t:TypeId}{rest:List Value}{bs:List Bool}{v:Value}(h:Wr K w base g t rest bs v):Wr K w.drew base g t rest bs v:=
 ⟨h.blk.drew,h.own,h.ne,h.base,h.kg,h.kv,h.kK⟩
structure Room (K:Nat->Prop) (w wx:World) (base g g2 c2:Nat) (t:TypeId) (rest:List Value) (bs:List Bool):Prop where
 blk:Blk wx g t (List.toArray (.slice (some ⟨g2,0,none⟩) (bs.length / 8+1) c2 :: .int .i64 (bs.length:Nat) :: rest))
 own:wx.ownsRow base 5 1 (.slice (some ⟨g2,0,none⟩) (bs.length / 8+1) c2) (bs.length / 8+1) (cZ .u8 (thZ bs))
 ne:g2≠g
 kg2:¬K g2
 kept:Kept K w wx
theorem ggZb{K:Nat->Prop}{w w3:World}{base g n c c3:Nat}{t:TypeId}{rest:List Value}{bs:List Bool}{A A3:Option Addr}(hW:Wr K w base g t rest bs (.slice A n c))(hm:bs.length % 8=0)(hn:n=(bs.length+7) / 8)
 (ho:w3.ownsRow base 5 1 (.slice A3 (n+1) c3) (n+1) (cZ .u8 (bytesOf bs)++ [.int .u8 0]))(hg:(w.alloc (.cells #[.int .u8 0] 5)).grownBy w3 (Value.slice A n c).ownBlock)
 (hat:(Value.slice A3 (n+1) c3).ownBlock=(Value.slice A n c).ownBlock∨(Value.slice A3 (n+1) c3).ownBlock=some (w.alloc (.cells #[.int .u8 0] 5)).heap.size):
 ∃g2 c2,Room K w (w3.setCell ⟨g,0,none⟩ (.slice A3 (n+1) c3)) base g g2 c2 t rest bs:=by
 have hgl:=hW.blk.lt
 obtain⟨g2,cap,e⟩:=hjZ ho
 injection e with e1 e2 e3
 subst e1
 have hkeep:g2≠g/\¬K g2:=by
  rcases hat with h|h
  ·exact⟨fun e=>hW.ne (by rw[<-h,e];rfl),hW.kv g2 (by rw[<-h];rfl)⟩
  ·have h:g2=w.heap.size+1:=by simpa[Value.ownBlock]using h
   exact⟨by omega,fun e=>by have:=hW.kK _ e;omega⟩
 have blk3:Blk w3 g t _:=((hW.blk.alloc (.cells #[.int .u8 0] 5))).grown hg (Ne.symm hW.ne)
 have hn2:n=bs.length / 8:=by omega
 subst hn2
 have hroom:cZ .u8 (thZ bs)=cZ .u8 (bytesOf bs)++ [.int .u8 0]:=by
  unfold thZ;rw[if_pos hm];simp[cZ]
 refine⟨g2,c3,?_,?_,hkeep.1,hkeep.2,?_⟩
 ·have h:=blk3.set 0 (.slice (some ⟨g2,0,none⟩) (bs.length / 8+1) c3)
  rwa [opZ]at h
 ·rw[hroom]
  exact eZ ho (fun x hx=>Below.heap_setCell w3 _ _ x (by have hx:g2=x:=by simpa[Value.ownBlock]using hx
                                                         subst hx;exact hkeep.1))
 ·exact Kept.set (p:=⟨g,0,none⟩) (((Kept.refl K w).alloc hW.kK _).grown hg (fun k hk=>by have:=hW.kK k hk;simp;omega) hW.kv) hW.kg _
theorem hgZb{K:Nat->Prop}{w:World}{base g n c:Nat}{t:TypeId}{rest:List Value}{bs:List Bool}{A:Option Addr}(hW:Wr K w base g t rest bs (.slice A n c))(hm:¬bs.length % 8=0)(hn:n=(bs.length+7) / 8)
 (ho:w.ownsRow base 5 1 (.slice A n c) n (cZ .u8 (bytesOf bs))):∃g2 c2,Room K w w base g g2 c2 t rest bs:=by
 have hn2:n=bs.length / 8+1:=by omega
 subst hn2
 obtain⟨g2,cap,e⟩:=hjZ ho
 injection e with e1 e2 e3
 subst e1
 have hroom:thZ bs=bytesOf bs:=by unfold thZ;rw[if_neg hm]
 exact⟨g2,c,hW.blk,by rw[hroom];exact ho,fun e=>hW.ne (by rw[e];rfl),hW.kv g2 rfl,Kept.refl _ _⟩
theorem avZ{K:Nat->Prop}{w wx:World}{base g g2 c2:Nat}{t:TypeId}{rest:List Value}{bs:List Bool}(b:Bool)(hR:Room K w wx base g g2 c2 t rest bs)(hg:¬K g)(hK:∀k,K k->k<w.heap.size)(hbase:base<=w.heap.size):
 let w1:=((wx.setCell ⟨g2,bs.length / 8,none⟩ (.int .u8 (jcZ (bs++ [b]) (bs.length / 8):Nat))).setCell ⟨g,1,none⟩ (.int .i64 ((bs.length:Int)+1))).drew
 ∃v',Wr K w1 base g t rest (bs++ [b]) v'/\Kept K w w1:=by
 intro w1
 have hkept:Kept K w w1:=(Kept.set (p:=⟨g,1,none⟩) (Kept.set (p:=⟨g2,bs.length / 8,none⟩) hR.kept hR.kg2 _) hg _).drew
 refine⟨.slice (some ⟨g2,0,none⟩) (bs.length / 8+1) c2,⟨?_,?_,?_,Nat.le_trans hbase hkept.size,hg,?_,hkept.lt hK⟩,hkept⟩
 ·have h:=(hR.blk.far (p:=⟨g2,bs.length / 8,none⟩) (Ne.symm hR.ne) (.int .u8 (jcZ (bs++ [b]) (bs.length / 8):Nat))).set 1 (.int .i64 ((bs.length:Int)+1))
  rw[opZ]at h
  refine Blk.drew ?_
  simpa using h
 ·have h:=(hR.own.stored (bs.length / 8) (.int .u8 (jcZ (bs++ [b]) (bs.length / 8):Nat))).1
  have e:(cZ .u8 (thZ bs)).set (bs.length / 8) (.int .u8 (jcZ (bs++ [b]) (bs.length / 8):Nat))=cZ .u8 (bytesOf (bs++ [b])):=by
   rw[nuZ];simp[cZ,List.map_set]
  rw[e]at h
  have e2:(bytesOf (bs++ [b])).length=bs.length / 8+1:=by rw[bytesOf_length];simp;omega
  rw[e2]
  exact eZ h (fun x hx=>by
   have hx:g2=x:=by simpa[Value.ownBlock]using hx
   subst hx
   exact Below.heap_setCell _ _ _ g2 hR.ne)
 ·intro e
  have e:g2=g:=by simpa[Value.ownBlock]using e
  exact hR.ne e
 ·intro x hx
  have hx:g2=x:=by simpa[Value.ownBlock]using hx
  subst hx
  exact hR.kg2
theorem nlZb(a b:Nat)(ha:a<256)(hb:b<256):bits .or .u8 (a:Int) (b:Int)=((a |||b:Nat):Int):=
 (bits_nat .u8 8 (by decide) wraps_u8 a b ha hb).2
theorem or_bit(bs:List Bool)(b:Bool)(m:Nat)(hm:m=bs.length):bits .or .u8 ((jcZ bs (m / 8):Nat):Int) (((if b then 1 else 0)*2 ^ (7-m % 8):Nat):Int)=((jcZ (bs++ [b]) (m / 8):Nat):Int):=by
 subst hm
 have h1:=ikZ bs (bs.length / 8)
 have h2:(if b then 1 else 0)*2 ^ (7-bs.length % 8)<256:=by
  have:2 ^ (7-bs.length % 8)<=2 ^ 7:=Nat.pow_le_pow_right (by omega) (by omega)
  split<;>omega
 rw[nlZb _ _ (by omega) h2,acZb]
theorem frZ(K:Nat->Prop)(w:World)(g base:Nat)(t:TypeId)(rest:List Value)(v:Value)(bs:List Bool)(b:Bool)(hle:bs.length<=6000000)(hW:Wr K w base g t rest bs v):
 Calls Tryz.prog 199 #[.pointer (some ⟨g,0,none⟩), .int .u64 (if b then 1 else 0:Nat)] w fun e w'=>e= .returned (.tuple #[])/\∃v',Wr K w' base g t rest (bs++ [b]) v'/\Kept K w w':=by
 obtain⟨j0,hj0,hy0,hy1,hy2⟩:=info_parts acZ
 have hown:=hW.own
 have hgl:=Blk.lt hW.blk
 have hn1:(bytesOf bs).length<=800000:=by rw[bytesOf_length];omega
 have hbl:=bytesOf_length bs
 generalize (bytesOf bs).length=n at *
 obtain⟨A,c,rfl⟩:=bZ hown
 have hbase:=hW.base
 have c0:=hW.blk.cell 0
 have c1:=hW.blk.cell 1
 have f0:=hW.blk.frozen 0
 have f1:=hW.blk.frozen 1
 simp only[List.getElem?_toArray,List.getElem?_cons_zero,List.getElem?_cons_succ]at c0 c1
 have hne:=hW.ne
 have HM:Hid (∃m,m=bs.length):=⟨_,rfl⟩
 obtain⟨m,hm⟩:=HM.out
 rw[<-hm]at c1 hle hbl
 have HMM:=hid hm
 have HBL:=hid hbl
 have HW:=hid hW
 clear hm hbl HM hW
 have hne2:some g≠(Value.slice A n c).ownBlock:=Ne.symm hne
 generalize hbv:((if b then 1 else 0:Nat):Int)=bv
 have HBV:=hid hbv
 clear hbv
 go_enter Tryz.func199,Tryz.ntmps199
 go_upto_if 9 with fail
 go_cut [9] (fun s wx=>∃g2 c2,(∃u,s= .bool u)/\Room K w wx base g g2 c2 t rest bs)
 case first=>
  by_cases h8:m % 8=0
  ·go_wp2_with(at_builtin;refine kZ rfl (.tmp 14) (.tmp 15) 22 rfl base 5 j0 _ 1 1 Tryz.underlying22 hj0 hy0 hy1 hy2 rfl (by decide) _ _ _ (by rfl) (hown.alloc _) _ 1 1 [.int .u8 0] (by rfl) (Src.of_blk (Blk.made _ _ _) 1 1 1 rfl) (by intro u hu;simp at hu;subst hu;rfl) (by unfold maxLen;omega) (by omega) (by simp;omega) ?_;intro v3 w3 hown3 hg3 hat3;obtain⟨A3,c3,rfl⟩:=bZ hown3;have gb:=hg3.block g (by simp;omega) hne2;have gb2:=gb.trans (Below.heap_alloc w _ g hgl);have p0:=(World.cell?_of_block (a:=⟨g,0,none⟩) gb2).trans c0;have p1:=(World.cell?_of_block (a:=⟨g,1,none⟩) gb2).trans c1;have q0:=(World.frozen?_of_block (a:=⟨g,0,none⟩) gb2).trans f0;have q1:=(World.frozen?_of_block (a:=⟨g,1,none⟩) gb2).trans f1)
   go_meet
   case rel=>
    obtain⟨g2,c2,hR⟩:=ggZb HW.out (by rw[<-HMM.out];exact h8) (by rw[<-HMM.out];exact HBL.out) hown3 hg3 hat3
    exact⟨g2,c2,⟨_,rfl⟩,hR⟩
  ·have h8b:((m:Int) % 8==0)=false:=by simp;omega
   go_wp2_with fail
   go_meet
   case rel=>
    obtain⟨g2,c2,hR⟩:=hgZb HW.out (by rw[<-HMM.out];exact h8) (by rw[<-HMM.out];exact HBL.out) hown
    exact⟨g2,c2,⟨_,rfl⟩,hR⟩
 case rest=>
  clear c0 c1 f0 f1 hown
  obtain⟨g2,c2,⟨u,rfl⟩,hR⟩:=hcut
  have c0:=hR.blk.cell 0
  have c1:=hR.blk.cell 1
  have f1:=hR.blk.frozen 1
  simp only[List.getElem?_toArray,List.getElem?_cons_zero,List.getElem?_cons_succ]at c0 c1
  rw[<-HMM.out]at c0 c1
  have hown:=hR.own
  rw[<-HMM.out]at hown
  have d0:=hown.cellAt (m / 8) (by omega)
  have f2:=hown.frozenAt (m / 8)
  rw[lsZ]at d0
  rw[<-HMM.out]at d0
  have d1:wc.cell? ⟨g2,m / 8,none⟩=some (.int .u8 (jcZ bs (m / 8):Nat)):=by rw[d0];simp[cZ]
  have by1:=ikZ bs (m / 8)
  obtain⟨y,hy⟩:∃y,y=jcZ bs (m / 8):=⟨_,rfl⟩
  rw[<-hy]at d1 by1
  have HY:=hid hy
  have HR:=hid hR
  clear hy d0 hown hR hne hne2 hn1 hbase
  have x0:(0:Int)<=(m:Int) / 8:=by omega
  have x1:(m:Int) / 8<((m / 8:Nat):Int)+1:=by omega
  have x2:(0:Int)<=7-(m:Int) % 8:=by omega
  go_upto_region 2 with fail
  have hgg:=HR.out.ne
  cases b
  ·have hb0:bv=0:=HBV.out.symm
   subst hb0
   clear HBV
   go_region
   have e0:=or_bit bs false m HMM.out
   rw[<-HY.out]at e0
   simp only[Bool.false_eq_true,if_false,Nat.zero_mul]at e0
   rw[show bits .or .u8 (y:Int) 0=_ from e0]
   clear x0 x1 x2 e0
   go_wp2_with fail
   refine bodyPost_end (results_none rfl _ _ _) rfl ⟨rfl,?_⟩
   rw[HMM.out]
   exact avZ _ HR.out HW.out.kg HW.out.kK HW.out.base
  ·have hb1:bv=1:=HBV.out.symm
   subst hb1
   clear HBV
   go_region
   have e0:=or_bit bs true m HMM.out
   rw[<-HY.out]at e0
   have e1:(((if true=true then 1 else 0)*2 ^ (7-m % 8):Nat):Int)=(2:Int) ^ (7-m % 8) % 256:=by
    have:2 ^ (7-m % 8)<=2 ^ 7:=Nat.pow_le_pow_right (by omega) (by omega)
    have h2:(2:Int) ^ (7-m % 8)=((2 ^ (7-m % 8):Nat):Int):=by simp
    rw[h2]
    simp only[if_true,Nat.one_mul]
    generalize 2 ^ (7-m % 8)=z at *
    omega
   rw[e1]at e0
   rw[show bits .or .u8 (y:Int) (2 ^ (7-m % 8) % 256)=_ from e0]
   clear e1
   clear x0 x1 x2 e0
   go_wp2_with fail
   refine bodyPost_end (results_none rfl _ _ _) rfl ⟨rfl,?_⟩
   rw[HMM.out]
   exact avZ _ HR.out HW.out.kg HW.out.kK HW.out.base
end Go.Proofs.YtbgoibedicbkjaaGreatDoor.Huff
namespace Go.Proofs.YtbgoibedicbkjaaGreatDoor.Huff
open Go.RowKit Mem Canon Own
theorem and_one(y:Nat)(hy:y<18446744073709551616):bits .and .u64 (y:Int) 1=((y % 2:Nat):Int):=by
 have h:=bits_and_u64_nat y 1 hy (by omega)
 rw[Nat.and_one_is_mod]at h
 exact h
theorem put_any(K:Nat->Prop)(w:World)(g base:Nat)(t:TypeId)(rest:List Value)(v:Value)(bs:List Bool)(x n:Nat)(hx:x<2 ^ n)(hn:n<=64)(hle:bs.length+n<=6000000)(hW:Wr K w base g t rest bs v):
 Calls Tryz.prog 153 #[.pointer (some ⟨g,0,none⟩), .int .u64 (x:Nat), .int .i64 (n:Nat)] w fun e w'=>e= .returned (.int .i64 0)/\∃v',Wr K w' base g t rest (bs++msb x n n) v'/\Kept K w w':=by
 have hx64:x<18446744073709551616:=Nat.lt_of_lt_of_le hx (by have:2 ^ n<=2 ^ 64:=Nat.pow_le_pow_right (by omega) hn;omega)
 have HW:=hid hW
 have HLE:=hid hle
 have HX:=hid hx
 have hz:((x:Int) / 2 ^ n != 0)=false:=by
  have e:((x:Int) / 2 ^ n)=((x / 2 ^ n:Nat):Int):=by simp
  rw[e,Nat.div_eq_of_lt hx]
  rfl
 have hW0:Wr K w base g t rest (bs++msb x n (n-n)) v:=by rw[Nat.sub_self,sfZb,List.append_nil];exact hW
 have HW0:=hid hW0
 clear hW hle hx hW0
 go_enter Tryz.func153,Tryz.ntmps153
 go_upto_region 1 with fail
 go_cut [27] (fun s wx=>s= .bool false/\w=wx)
 case first=>
  go_wp2_with fail
  all_goals
   go_meet
   case rel=>exact⟨rfl,rfl⟩
 case rest=>
  obtain⟨rfl,rfl⟩:=hcut
  clear hz
  go_wp2_with fail
  go_loopw [7] (fun i wr=>∃ (j:Nat) (v':Value),j<=n/\i= .int .i64 ((j:Int)-1)/\Hid (Wr K wr base g t rest (bs++msb x n (n-j)) v')/\Kept K w wr) (fun i _=>(intOf i+1).toNat)
  case atStart=>exact⟨n,v,by omega,by go_num,HW0.out,Kept.refl _ _⟩
  case round=>
   obtain⟨j,v',hj,rfl,hWr,hkp⟩:=hrel
   cases j with
   |zero=>
    have e:(((0:Nat):Int)-1)= -1:=by omega
    rw[e]
    clear e
    go_wp2_with fail
    go_ret
    exact⟨rfl,v',hWr.out,hkp⟩
   |succ j=>
    have e:(((j+1:Nat):Int)-1)=(j:Int):=by omega
    rw[e]
    clear e
    have hd:x / 2 ^ j<18446744073709551616:=Nat.lt_of_le_of_lt (Nat.div_le_self _ _) hx64
    have hz:((x:Int) / 2 ^ j)=((x / 2 ^ j:Nat):Int):=by simp
    have C:Hid (Calls Tryz.prog 199 #[.pointer (some ⟨g,0,none⟩), .int .u64 (bits .and .u64 ((x:Int) / 2 ^ j) 1)] wr.drew fun e w'=>e= .returned (.tuple #[])/\∃v',Wr K w' base g t rest (bs++msb x n (n-j)) v'/\Kept K wr.drew w'):=by
     have h:=frZ K wr.drew g base t rest v' (bs++msb x n (n-(j+1))) (decide (x / 2 ^ j % 2=1)) (by rw[List.length_append,ilZ];have:=HLE.out;omega) hWr.out.drew
     have e:n-j=n-(j+1)+1:=by omega
     rw[e,tfZb,<-List.append_assoc,show n-1-(n-(j+1))=j by omega,hz,and_one _ hd,<-kjZb]
     exact h
    clear hz
    go_upto_region 6 with fail
    go_region_held3 (fun _=>True) (trivial) ((go_at_call 199;first|((with_reducible refine C.out.mono ?_);rintro e w' ⟨rfl,hb1⟩)))
    obtain⟨v2,hW2,hk2⟩:=hb1
    have HW2:=hid hW2
    clear hd hW2 hWr C
    go_wp2_with fail
    go_roundw
    case measure=>go_light;simp[intOf]
    case rel=>
     go_light
     exact⟨j,v2,by omega,by go_num,HW2.out,hkp.drew.trans hk2⟩
end Go.Proofs.YtbgoibedicbkjaaGreatDoor.Huff
namespace Go.Proofs.YtbgoibedicbkjaaGreatDoor.Canon
open Huff
def zrun(ls:List Nat)(i:Nat):Nat->Nat
 |0=>0
 |c+1=>if ls[i]? =some 0 then zrun ls (i+1) c+1 else 0
def wrGo(ls:List Nat):Nat->Nat->List Bool
 |0,_=> []
 |f+1,i=>
  if i<ls.length then
   if ls.getD i 0=0 then msb 0 4 4++(msb (zrun ls i 64-1) 6 6++wrGo ls f (i+zrun ls i 64))
   else msb (ls.getD i 0) 4 4++wrGo ls f (i+1)
  else []
def ncZb(ls:List Nat):List Bool:=wrGo ls ls.length 0
end Go.Proofs.YtbgoibedicbkjaaGreatDoor.Canon
namespace Go.Proofs.YtbgoibedicbkjaaGreatDoor.Huff
open Go.RowKit Mem Canon Own
end Go.Proofs.YtbgoibedicbkjaaGreatDoor.Huff
