/- The walk of bits' row.add: one bit more. The walk of bits' Writer.Put: -/
import Derived.Test.YtmlaajebadfkoaaGreatDoorZTwoPacks1
import Derived.Test.YtmlaajebadfkoaaGreatDoorZTwoPacks3
import Derived.Test.YtmlaajebadfkoaaGreatDoorZTwoPacks2
import Derived.BigRegion
import Derived.Deep.DeepCutAuto
import Derived.Laws.BitsLemmas
import Derived.Deep.RegionHeld3
import Derived.BigGuardPart
import Derived.Laws.Bits64b
namespace Go.Proofs.YtmlaajebadfkoaaGreatDoor end Go.Proofs.YtmlaajebadfkoaaGreatDoor open Go.Proofs.YtmlaajebadfkoaaGreatDoor
open Go.Lib (hid)
set_option maxRecDepth 100000
namespace Go.Proofs.YtmlaajebadfkoaaGreatDoor.Huff
open Go.RowKit Mem Canon Own
structure Wr (K:Nat->Prop) (w:World) (base g:Nat) (t:TypeId) (rest:List Value) (bs:List Bool) (v:Value):Prop where
 blk:Blk w g t (List.toArray (v :: .int .i64 (bs.length:Nat) :: rest))
 own:w.ownsRow base 5 1 v (bytesOf bs).length (dZ .u8 (bytesOf bs))
 ne:v.ownBlock≠some g
 base:base<=w.heap.size
 kg:¬K g
 kv:∀x,v.ownBlock=some x->¬K x
 kK:∀k,K k->k<w.heap.size
theorem Wr.drew{K:Nat->Prop}{w:World}{base g:Nat}{t:TypeId}{rest:List Value}{bs:List Bool}{v:Value}(h:Wr K w base g t rest bs v):Wr K w.drew base g t rest bs v:=
 ⟨h.blk.drew,h.own,h.ne,h.base,h.kg,h.kv,h.kK⟩
structure Room (K:Nat->Prop) (w wx:World) (base g g2 c2:Nat) (t:TypeId) (rest:List Value) (bs:List Bool):Prop where
 blk:Blk wx g t (List.toArray (.slice (some ⟨g2,0,none⟩) (bs.length / 8+1) c2 :: .int .i64 (bs.length:Nat) :: rest))
 own:wx.ownsRow base 5 1 (.slice (some ⟨g2,0,none⟩) (bs.length / 8+1) c2) (bs.length / 8+1) (dZ .u8 (fjZ bs))
 ne:g2≠g
 kg2:¬K g2
 kept:Kept K w wx
theorem umZb{K:Nat->Prop}{w w3:World}{base g n c c3:Nat}{t:TypeId}{rest:List Value}{bs:List Bool}{A A3:Option Addr}(hW:Wr K w base g t rest bs (.slice A n c))(hm:bs.length % 8=0)(hn:n=(bs.length+7) / 8)
 (ho:w3.ownsRow base 5 1 (.slice A3 (n+1) c3) (n+1) (dZ .u8 (bytesOf bs)++ [.int .u8 0]))(hg:(w.alloc (.cells #[.int .u8 0] 5)).grownBy w3 (Value.slice A n c).ownBlock)
 (hat:(Value.slice A3 (n+1) c3).ownBlock=(Value.slice A n c).ownBlock∨(Value.slice A3 (n+1) c3).ownBlock=some (w.alloc (.cells #[.int .u8 0] 5)).heap.size):
 ∃g2 c2,Room K w (w3.setCell ⟨g,0,none⟩ (.slice A3 (n+1) c3)) base g g2 c2 t rest bs:=by
 have hgl:=hW.blk.lt
 obtain⟨g2,cap,e⟩:=deZ ho
 injection e with e1 e2 e3
 subst e1
 have hkeep:g2≠g/\¬K g2:=by
  rcases hat with h|h
  ·exact⟨fun e=>hW.ne (by rw[<-h,e];rfl),hW.kv g2 (by rw[<-h];rfl)⟩
  ·have h:g2=w.heap.size+1:=by simpa[Value.ownBlock]using h
   exact⟨by omega,fun e=>by have:=hW.kK _ e;omega⟩
 have blk3:Blk w3 g t _:=((hW.blk.alloc (.cells #[.int .u8 0] 5))).grown hg (Ne.symm hW.ne)
 have hn2:n=bs.length / 8:=by omega
 subst hn2
 have hroom:dZ .u8 (fjZ bs)=dZ .u8 (bytesOf bs)++ [.int .u8 0]:=by
  unfold fjZ;rw[if_pos hm];simp[dZ]
 refine⟨g2,c3,?_,?_,hkeep.1,hkeep.2,?_⟩
 ·have h:=blk3.set 0 (.slice (some ⟨g2,0,none⟩) (bs.length / 8+1) c3)
  rwa [vtZ]at h
 ·rw[hroom]
  exact fZ ho (fun x hx=>Below.heap_setCell w3 _ _ x (by have hx:g2=x:=by simpa[Value.ownBlock]using hx
                                                         subst hx;exact hkeep.1))
 ·exact Kept.set (p:=⟨g,0,none⟩) (((Kept.refl K w).alloc hW.kK _).grown hg (fun k hk=>by have:=hW.kK k hk;simp;omega) hW.kv) hW.kg _
theorem vmZb{K:Nat->Prop}{w:World}{base g n c:Nat}{t:TypeId}{rest:List Value}{bs:List Bool}{A:Option Addr}(hW:Wr K w base g t rest bs (.slice A n c))(hm:¬bs.length % 8=0)(hn:n=(bs.length+7) / 8)
 (ho:w.ownsRow base 5 1 (.slice A n c) n (dZ .u8 (bytesOf bs))):∃g2 c2,Room K w w base g g2 c2 t rest bs:=by
 have hn2:n=bs.length / 8+1:=by omega
 subst hn2
 obtain⟨g2,cap,e⟩:=deZ ho
 injection e with e1 e2 e3
 subst e1
 have hroom:fjZ bs=bytesOf bs:=by unfold fjZ;rw[if_neg hm]
 exact⟨g2,c,hW.blk,by rw[hroom];exact ho,fun e=>hW.ne (by rw[e];rfl),hW.kv g2 rfl,Kept.refl _ _⟩
theorem hbZb{K:Nat->Prop}{w wx:World}{base g g2 c2:Nat}{t:TypeId}{rest:List Value}{bs:List Bool}(b:Bool)(hR:Room K w wx base g g2 c2 t rest bs)(hg:¬K g)(hK:∀k,K k->k<w.heap.size)(hbase:base<=w.heap.size):
 let w1:=((wx.setCell ⟨g2,bs.length / 8,none⟩ (.int .u8 (wbZ (bs++ [b]) (bs.length / 8):Nat))).setCell ⟨g,1,none⟩ (.int .i64 ((bs.length:Int)+1))).drew
 ∃v',Wr K w1 base g t rest (bs++ [b]) v'/\Kept K w w1:=by
 intro w1
 have hkept:Kept K w w1:=(Kept.set (p:=⟨g,1,none⟩) (Kept.set (p:=⟨g2,bs.length / 8,none⟩) hR.kept hR.kg2 _) hg _).drew
 refine⟨.slice (some ⟨g2,0,none⟩) (bs.length / 8+1) c2,⟨?_,?_,?_,Nat.le_trans hbase hkept.size,hg,?_,hkept.lt hK⟩,hkept⟩
 ·have h:=(hR.blk.far (p:=⟨g2,bs.length / 8,none⟩) (Ne.symm hR.ne) (.int .u8 (wbZ (bs++ [b]) (bs.length / 8):Nat))).set 1 (.int .i64 ((bs.length:Int)+1))
  rw[vtZ]at h
  refine Blk.drew ?_
  simpa using h
 ·have h:=(hR.own.stored (bs.length / 8) (.int .u8 (wbZ (bs++ [b]) (bs.length / 8):Nat))).1
  have e:(dZ .u8 (fjZ bs)).set (bs.length / 8) (.int .u8 (wbZ (bs++ [b]) (bs.length / 8):Nat))=dZ .u8 (bytesOf (bs++ [b])):=by
   rw[caZb];simp[dZ,List.map_set]
  rw[e]at h
  have e2:(bytesOf (bs++ [b])).length=bs.length / 8+1:=by rw[bytesOf_length];simp;omega
  rw[e2]
  exact fZ h (fun x hx=>by
   have hx:g2=x:=by simpa[Value.ownBlock]using hx
   subst hx
   exact Below.heap_setCell _ _ _ g2 hR.ne)
 ·intro e
  have e:g2=g:=by simpa[Value.ownBlock]using e
  exact hR.ne e
 ·intro x hx
  have hx:g2=x:=by simpa[Value.ownBlock]using hx
  subst hx
  exact hR.kg2
theorem xrZb(a b:Nat)(ha:a<256)(hb:b<256):bits .or .u8 (a:Int) (b:Int)=((a |||b:Nat):Int):=
 (bits_nat .u8 8 (by decide) wraps_u8 a b ha hb).2
theorem or_bit(bs:List Bool)(b:Bool)(m:Nat)(hm:m=bs.length):bits .or .u8 ((wbZ bs (m / 8):Nat):Int) (((if b then 1 else 0)*2 ^ (7-m % 8):Nat):Int)=((wbZ (bs++ [b]) (m / 8):Nat):Int):=by
 subst hm
 have h1:=rkZ bs (bs.length / 8)
 have h2:(if b then 1 else 0)*2 ^ (7-bs.length % 8)<256:=by
  have:2 ^ (7-bs.length % 8)<=2 ^ 7:=Nat.pow_le_pow_right (by omega) (by omega)
  split<;>omega
 rw[xrZb _ _ (by omega) h2,yiZb]
theorem add_any(K:Nat->Prop)(w:World)(g base:Nat)(t:TypeId)(rest:List Value)(v:Value)(bs:List Bool)(b:Bool)(hle:bs.length<=6000000)(hW:Wr K w base g t rest bs v):
 Calls Tryz.prog 245 #[.pointer (some ⟨g,0,none⟩), .int .u64 (if b then 1 else 0:Nat)] w fun e w'=>e= .returned (.tuple #[])/\∃v',Wr K w' base g t rest (bs++ [b]) v'/\Kept K w w':=by
 obtain⟨j0,hj0,hy0,hy1,hy2⟩:=info_parts hbZ
 have hown:=hW.own
 have hgl:=Blk.lt hW.blk
 have hn1:(bytesOf bs).length<=800000:=by rw[bytesOf_length];omega
 have hbl:=bytesOf_length bs
 generalize (bytesOf bs).length=n at *
 obtain⟨A,c,rfl⟩:=bZ hown
 have hbase:=hW.base
 have c0:=hW.blk.cell 0
 have c1:=hW.blk.cell 1
 have f0:=hW.blk.frozen 0
 have f1:=hW.blk.frozen 1
 simp only[List.getElem?_toArray,List.getElem?_cons_zero,List.getElem?_cons_succ]at c0 c1
 have hne:=hW.ne
 have HM:Hid (∃m,m=bs.length):=⟨_,rfl⟩
 obtain⟨m,hm⟩:=HM.out
 rw[<-hm]at c1 hle hbl
 have HMM:=hid hm
 have HBL:=hid hbl
 have HW:=hid hW
 clear hm hbl HM hW
 have hne2:some g≠(Value.slice A n c).ownBlock:=Ne.symm hne
 generalize hbv:((if b then 1 else 0:Nat):Int)=bv
 have HBV:=hid hbv
 clear hbv
 go_enter Tryz.func245,Tryz.ntmps245
 go_upto_if 9 with fail
 go_cut [9] (fun s wx=>∃g2 c2,(∃u,s= .bool u)/\Room K w wx base g g2 c2 t rest bs)
 case first=>
  by_cases h8:m % 8=0
  ·go_wp2_with(at_builtin;refine hZ rfl (.tmp 14) (.tmp 15) 29 rfl base 5 j0 _ 1 1 Tryz.underlying29 hj0 hy0 hy1 hy2 rfl (by decide) _ _ _ (by rfl) (hown.alloc _) _ 1 1 [.int .u8 0] (by rfl) (Src.of_blk (Blk.made _ _ _) 1 1 1 rfl) (by intro u hu;simp at hu;subst hu;rfl) (by unfold maxLen;omega) (by omega) (by simp;omega) ?_;intro v3 w3 hown3 hg3 hat3;obtain⟨A3,c3,rfl⟩:=bZ hown3;have gb:=hg3.block g (by simp;omega) hne2;have gb2:=gb.trans (Below.heap_alloc w _ g hgl);have p0:=(World.cell?_of_block (a:=⟨g,0,none⟩) gb2).trans c0;have p1:=(World.cell?_of_block (a:=⟨g,1,none⟩) gb2).trans c1;have q0:=(World.frozen?_of_block (a:=⟨g,0,none⟩) gb2).trans f0;have q1:=(World.frozen?_of_block (a:=⟨g,1,none⟩) gb2).trans f1)
   go_meet
   case rel=>
    obtain⟨g2,c2,hR⟩:=umZb HW.out (by rw[<-HMM.out];exact h8) (by rw[<-HMM.out];exact HBL.out) hown3 hg3 hat3
    exact⟨g2,c2,⟨_,rfl⟩,hR⟩
  ·have h8b:((m:Int) % 8==0)=false:=by simp;omega
   go_wp2_with fail
   go_meet
   case rel=>
    obtain⟨g2,c2,hR⟩:=vmZb HW.out (by rw[<-HMM.out];exact h8) (by rw[<-HMM.out];exact HBL.out) hown
    exact⟨g2,c2,⟨_,rfl⟩,hR⟩
 case rest=>
  clear c0 c1 f0 f1 hown
  obtain⟨g2,c2,⟨u,rfl⟩,hR⟩:=hcut
  have c0:=hR.blk.cell 0
  have c1:=hR.blk.cell 1
  have f1:=hR.blk.frozen 1
  simp only[List.getElem?_toArray,List.getElem?_cons_zero,List.getElem?_cons_succ]at c0 c1
  rw[<-HMM.out]at c0 c1
  have hown:=hR.own
  rw[<-HMM.out]at hown
  have d0:=hown.cellAt (m / 8) (by omega)
  have f2:=hown.frozenAt (m / 8)
  rw[pxZ]at d0
  rw[<-HMM.out]at d0
  have d1:wc.cell? ⟨g2,m / 8,none⟩=some (.int .u8 (wbZ bs (m / 8):Nat)):=by rw[d0];simp[dZ]
  have by1:=rkZ bs (m / 8)
  obtain⟨y,hy⟩:∃y,y=wbZ bs (m / 8):=⟨_,rfl⟩
  rw[<-hy]at d1 by1
  have HY:=hid hy
  have HR:=hid hR
  clear hy d0 hown hR hne hne2 hn1 hbase
  have x0:(0:Int)<=(m:Int) / 8:=by omega
  have x1:(m:Int) / 8<((m / 8:Nat):Int)+1:=by omega
  have x2:(0:Int)<=7-(m:Int) % 8:=by omega
  go_upto_region 2 with fail
  have hgg:=HR.out.ne
  cases b
  ·have hb0:bv=0:=HBV.out.symm
   subst hb0
   clear HBV
   go_region
   have e0:=or_bit bs false m HMM.out
   rw[<-HY.out]at e0
   simp only[Bool.false_eq_true,if_false,Nat.zero_mul]at e0
   rw[show bits .or .u8 (y:Int) 0=_ from e0]
   clear x0 x1 x2 e0
   go_wp2_with fail
   refine bodyPost_end (results_none rfl _ _ _) rfl ⟨rfl,?_⟩
   rw[HMM.out]
   exact hbZb _ HR.out HW.out.kg HW.out.kK HW.out.base
  ·have hb1:bv=1:=HBV.out.symm
   subst hb1
   clear HBV
   go_region
   have e0:=or_bit bs true m HMM.out
   rw[<-HY.out]at e0
   have e1:(((if true=true then 1 else 0)*2 ^ (7-m % 8):Nat):Int)=(2:Int) ^ (7-m % 8) % 256:=by
    have:2 ^ (7-m % 8)<=2 ^ 7:=Nat.pow_le_pow_right (by omega) (by omega)
    have h2:(2:Int) ^ (7-m % 8)=((2 ^ (7-m % 8):Nat):Int):=by simp
    rw[h2]
    simp only[if_true,Nat.one_mul]
    generalize 2 ^ (7-m % 8)=z at *
    omega
   rw[e1]at e0
   rw[show bits .or .u8 (y:Int) (2 ^ (7-m % 8) % 256)=_ from e0]
   clear e1
   clear x0 x1 x2 e0
   go_wp2_with fail
   refine bodyPost_end (results_none rfl _ _ _) rfl ⟨rfl,?_⟩
   rw[HMM.out]
   exact hbZb _ HR.out HW.out.kg HW.out.kK HW.out.base
end Go.Proofs.YtmlaajebadfkoaaGreatDoor.Huff
namespace Go.Proofs.YtmlaajebadfkoaaGreatDoor.Huff
open Go.RowKit Mem Canon Own
theorem and_one(y:Nat)(hy:y<18446744073709551616):bits .and .u64 (y:Int) 1=((y % 2:Nat):Int):=by
 have h:=bits_and_u64_nat y 1 hy (by omega)
 rw[Nat.and_one_is_mod]at h
 exact h
theorem put_any(K:Nat->Prop)(w:World)(g base:Nat)(t:TypeId)(rest:List Value)(v:Value)(bs:List Bool)(x n:Nat)(hx:x<2 ^ n)(hn:n<=64)(hle:bs.length+n<=6000000)(hW:Wr K w base g t rest bs v):
 Calls Tryz.prog 200 #[.pointer (some ⟨g,0,none⟩), .int .u64 (x:Nat), .int .i64 (n:Nat)] w fun e w'=>e= .returned (.int .i64 0)/\∃v',Wr K w' base g t rest (bs++msb x n n) v'/\Kept K w w':=by
 have hx64:x<18446744073709551616:=Nat.lt_of_lt_of_le hx (by have:2 ^ n<=2 ^ 64:=Nat.pow_le_pow_right (by omega) hn;omega)
 have HW:=hid hW
 have HLE:=hid hle
 have HX:=hid hx
 have hz:((x:Int) / 2 ^ n != 0)=false:=by
  have e:((x:Int) / 2 ^ n)=((x / 2 ^ n:Nat):Int):=by simp
  rw[e,Nat.div_eq_of_lt hx]
  rfl
 have hW0:Wr K w base g t rest (bs++msb x n (n-n)) v:=by rw[Nat.sub_self,daZb,List.append_nil];exact hW
 have HW0:=hid hW0
 clear hW hle hx hW0
 go_enter Tryz.func200,Tryz.ntmps200
 go_upto_region 1 with fail
 go_cut [27] (fun s wx=>s= .bool false/\w=wx)
 case first=>
  go_wp2_with fail
  all_goals
   go_meet
   case rel=>exact⟨rfl,rfl⟩
 case rest=>
  obtain⟨rfl,rfl⟩:=hcut
  clear hz
  go_wp2_with fail
  go_loopw [7] (fun i wr=>∃ (j:Nat) (v':Value),j<=n/\i= .int .i64 ((j:Int)-1)/\Hid (Wr K wr base g t rest (bs++msb x n (n-j)) v')/\Kept K w wr) (fun i _=>(intOf i+1).toNat)
  case atStart=>exact⟨n,v,by omega,by go_num,HW0.out,Kept.refl _ _⟩
  case round=>
   obtain⟨j,v',hj,rfl,hWr,hkp⟩:=hrel
   cases j with
   |zero=>
    have e:(((0:Nat):Int)-1)= -1:=by omega
    rw[e]
    clear e
    go_wp2_with fail
    go_ret
    exact⟨rfl,v',hWr.out,hkp⟩
   |succ j=>
    have e:(((j+1:Nat):Int)-1)=(j:Int):=by omega
    rw[e]
    clear e
    have hd:x / 2 ^ j<18446744073709551616:=Nat.lt_of_le_of_lt (Nat.div_le_self _ _) hx64
    have hz:((x:Int) / 2 ^ j)=((x / 2 ^ j:Nat):Int):=by simp
    have C:Hid (Calls Tryz.prog 245 #[.pointer (some ⟨g,0,none⟩), .int .u64 (bits .and .u64 ((x:Int) / 2 ^ j) 1)] wr.drew fun e w'=>e= .returned (.tuple #[])/\∃v',Wr K w' base g t rest (bs++msb x n (n-j)) v'/\Kept K wr.drew w'):=by
     have h:=add_any K wr.drew g base t rest v' (bs++msb x n (n-(j+1))) (decide (x / 2 ^ j % 2=1)) (by rw[List.length_append,uZ];have:=HLE.out;omega) hWr.out.drew
     have e:n-j=n-(j+1)+1:=by omega
     rw[e,eaZb,<-List.append_assoc,show n-1-(n-(j+1))=j by omega,hz,and_one _ hd,<-xeZb]
     exact h
    clear hz
    go_upto_region 6 with fail
    go_region_held3 (fun _=>True) (trivial) ((go_at_call 245;first|((with_reducible refine C.out.mono ?_);rintro e w' ⟨rfl,hb1⟩)))
    obtain⟨v2,hW2,hk2⟩:=hb1
    have HW2:=hid hW2
    clear hd hW2 hWr C
    go_wp2_with fail
    go_roundw
    case measure=>go_light;simp[intOf]
    case rel=>
     go_light
     exact⟨j,v2,by omega,by go_num,HW2.out,hkp.drew.trans hk2⟩
end Go.Proofs.YtmlaajebadfkoaaGreatDoor.Huff
namespace Go.Proofs.YtmlaajebadfkoaaGreatDoor.Canon
open Huff
def ddZ(ls:List Nat)(i:Nat):Nat->Nat
 |0=>0
 |c+1=>if ls[i]? =some 0 then ddZ ls (i+1) c+1 else 0
theorem pwZ(ls:List Nat):∀ (c i:Nat),ddZ ls i c<=c
 |0,_=>Nat.le_refl _
 |c+1,i=>by
  unfold ddZ
  have:=pwZ ls c (i+1)
  split<;>omega
theorem ymZ(ls:List Nat):∀ (c i:Nat),i<=ls.length->i+ddZ ls i c<=ls.length
 |0,i,h=>by simpa[ddZ]using h
 |c+1,i,h=>by
  unfold ddZ
  split
  ·rename_i h0
   have hl:=(List.getElem?_eq_some_iff.1 h0).1
   have:=ymZ ls c (i+1) hl
   omega
  ·exact h
def vfZ(ls:List Nat):Nat->Nat->List Bool
 |0,_=> []
 |f+1,i=>
  if i<ls.length then
   if ls.getD i 0=0 then msb 0 4 4++(msb (ddZ ls i 64-1) 6 6++vfZ ls f (i+ddZ ls i 64))
   else msb (ls.getD i 0) 4 4++vfZ ls f (i+1)
  else []
def cdZ(ls:List Nat):List Bool:=vfZ ls ls.length 0
theorem siZ(ls:List Nat)(f i:Nat)(h:ls.length<=i):vfZ ls f i= []:=by
 cases f with
 |zero=>rfl
 |succ f=>unfold vfZ;rw[if_neg (by omega)]
theorem emZ{ls:List Nat}{i:Nat}(h:ls[i]? =some 0)(c:Nat):ddZ ls i (c+1)=ddZ ls (i+1) c+1:=by
 rw[ddZ,if_pos h]
theorem jgZ(ls:List Nat):∀ (f f' i:Nat),ls.length<=i+f->ls.length<=i+f'->vfZ ls f i=vfZ ls f' i
 |0,f',i,h,_=>by rw[siZ ls 0 i h,siZ ls f' i h]
 |f+1,0,i,_,h=>by rw[siZ ls 0 i h,siZ ls (f+1) i h]
 |f+1,f'+1,i,h,h'=>by
  unfold vfZ
  by_cases hi:i<ls.length
  ·rw[if_pos hi,if_pos hi]
   by_cases h0:ls.getD i 0=0
   ·rw[if_pos h0,if_pos h0]
    have hz:ls[i]? =some 0:=by
     rw[List.getD_eq_getElem?_getD,List.getElem?_eq_getElem hi]at h0
     rw[List.getElem?_eq_getElem hi]
     exact congrArg some h0
    have hz1:ddZ ls i 64=ddZ ls (i+1) 63+1:=emZ hz 63
    rw[jgZ ls f f' (i+ddZ ls i 64) (by omega) (by omega)]
   ·rw[if_neg h0,if_neg h0,jgZ ls f f' (i+1) (by omega) (by omega)]
  ·rw[if_neg hi,if_neg hi]
theorem wrGo_length(ls:List Nat):∀ (f i:Nat),(vfZ ls f i).length<=10*f
 |0,_=>Nat.le_refl _
 |f+1,i=>by
  unfold vfZ
  split
  ·split
   ·rw[List.length_append,List.length_append,uZ,uZ]
    have:=wrGo_length ls f (i+ddZ ls i 64)
    omega
   ·rw[List.length_append,uZ]
    have:=wrGo_length ls f (i+1)
    omega
  ·simp
end Go.Proofs.YtmlaajebadfkoaaGreatDoor.Canon
namespace Go.Proofs.YtmlaajebadfkoaaGreatDoor.Huff
open Go.RowKit Mem Canon Own
theorem Wr.step{K:Nat->Prop}{w w':World}{base g:Nat}{t:TypeId}{rest:List Value}{bs:List Bool}{v:Value}(h:Wr K w base g t rest bs v)(hb:Below w.heap.size w w'):Wr K w' base g t rest bs v:=
 ⟨h.blk.step hb,fZ h.own fun x hx=>hb.block x (World.ownsRow.lt h.own x hx).2,h.ne,Nat.le_trans h.base hb.size,h.kg,h.kv,fun k hk=>Nat.lt_of_lt_of_le (h.kK k hk) hb.size⟩
theorem Wr.putRest{K:Nat->Prop}{w:World}{base g:Nat}{t:TypeId}{rest:List Value}{bs:List Bool}{v:Value}(h:Wr K w base g t rest bs v)(i:Nat)(u:Value):Wr K (w.setCell ⟨g,i+2,none⟩ u) base g t (rest.set i u) bs v:=by
 have hz:=(jZ (B:=0) (p:=⟨g,i+2,none⟩) (u:=u) (Nat.zero_le _) (Below.refl 0 w)).size
 refine⟨?_,fZ h.own fun x hx=>Below.heap_setCell w ⟨g,i+2,none⟩ u x (fun e=>h.ne (by rw[hx,e])),h.ne,Nat.le_trans h.base hz,h.kg,h.kv,fun k hk=>Nat.lt_of_lt_of_le (h.kK k hk) hz⟩
 have:=h.blk.set (i+2) u
 rw[vtZ]at this
 exact this
theorem wmZb{ls:List Nat}{i r:Nat}:∀ {c:Nat},r<=c->(∀j,j<r->ls[i+j]? =some 0)->ddZ ls i c=r+ddZ ls (i+r) (c-r):=by
 induction r generalizing i with
 |zero=>intro c _ _;simp
 |succ r ih=>
  intro c hc h
  obtain⟨c,rfl⟩:∃d,c=d+1:=⟨c-1,by omega⟩
  have h0:ls[i]? =some 0:=by simpa using h 0 (by omega)
  rw[emZ h0,ih (i:=i+1) (c:=c) (by omega) (fun j hj=>by have:=h (j+1) (by omega);rwa [show i+(j+1)=i+1+j by omega]at this)]
  rw[show i+1+r=i+(r+1) by omega,show c+1-(r+1)=c-r by omega]
  omega
theorem kyZ{ls:List Nat}{i r:Nat}(h:r<=64)(hz:∀j,j<r->ls[i+j]? =some 0)(he:r=64∨ls[i+r]? ≠some 0):ddZ ls i 64=r:=by
 rw[wmZb h hz]
 rcases he with rfl|he
 ·simp[ddZ]
 ·by_cases h2:r=64
  ·subst h2;simp[ddZ]
  ·obtain⟨c,hc⟩:∃c,64-r=c+1:=⟨63-r,by omega⟩
   rw[hc,ddZ,if_neg he];omega
set_option maxHeartbeats 1000000 in
theorem jhZb(K:Nat->Prop)(w:World)(g base:Nat)(t:TypeId)(rest:List Value)(v:Value)(bs:List Bool)(A:Option Addr)(n c:Nat)(ls:List Nat)(hn:ls.length=n)(hN:n<=9223372036854775807)(hok:okB ls=true)(hKA:0<n->∀p,A=some p->K p.block)(ha:Row w w.heap.size A n 1 (rZ .u8 ls))(hle:bs.length+10*n<=5000000)(hW:Wr K w base g t rest bs v):
 Calls Tryz.prog 275 #[.pointer (some ⟨g,0,none⟩), .slice A n c] w fun e w'=>e= .returned (.int .i64 0)/\∃v',Wr K w' base g t rest (bs++cdZ ls) v'/\Kept K w w':=by
 have hE:jeZ ls=0:=by unfold jeZ;rw[if_pos hok]
 have C0:=oxZ w A n c ls hn hN ha
 rw[hE]at C0
 have C0:=hid C0
 obtain⟨_,hsm,_⟩:=ok_parts hok
 have HN:=hid hn
 have HSM:=hid hsm
 have HLE:=hid hle
 have HW:=hid hW
 have HA:=hid ha
 have HKA:=hid hKA
 clear hn hok hE hsm hle hW ha hKA
 go_enter Tryz.func275,Tryz.ntmps275
 go_wp2_with fail
 refine C0.out.mono ?_
 rintro e w1 ⟨rfl,hb1⟩
 have HW1:=hid (HW.out.step hb1)
 have HK1:Hid (Kept K w w1):=Kept.of_below hb1 fun z hz=>HW.out.kK z hz
 clear hb1 HW
 go_wp2_with fail
 go_loopw [6] (fun i wr=>∃ (k:Nat) (v:Value) (b:List Bool),k<=n/\i= .int .i64 k/\Hid (Wr K wr base g t rest b v)/\Hid (b++vfZ ls n k=bs++cdZ ls)/\Hid (b.length<=bs.length+10*k)/\Hid (Kept K w wr)) (fun i _=>n-(intOf i).toNat)
 case atStart=>exact⟨0,v,bs,by omega,rfl,HW1.out,by show _=_;unfold cdZ;rw[HN.out],by show _<=_;omega,HK1.out⟩
 case round=>
  clear HW1 HK1
  obtain⟨k,v1,b1,hk,rfl,HW,HG,HL,HK⟩:=hrel
  have hg0:=HG.out
  have hl0:=HL.out
  have hle0:=HLE.out
  by_cases hlt:k<n
  ·obtain⟨ob,off,x,rfl,hbb,hx,c0⟩:=bbZ HA.out HN.out hlt
   have KOB:=hid (HKA.out (by omega) _ rfl)
   simp only at KOB
   have c1:=(World.cell?_of_block (a:=⟨ob,off+k,none⟩) (HK.out.block ob KOB.out)).trans c0
   have hx15:=HSM.out x (List.mem_of_getElem? hx)
   have y0:(0:Int)<=(k:Int):=by omega
   have y1:(k:Int)<(n:Int):=by omega
   have hgx:ls.getD k 0=x:=by rw[List.getD_eq_getElem?_getD,hx];rfl
   have hst:vfZ ls n k=vfZ ls (n-k-1+1) k:=jgZ ls _ _ _ (by have:=HN.out;omega) (by have:=HN.out;omega)
   rw[hst]at hg0
   unfold vfZ at hg0
   rw[HN.out,if_pos hlt,hgx]at hg0
   by_cases h0:x=0
   ·subst h0
    rw[if_pos rfl]at hg0
    have hr0:=ymZ ls 64 k (by have:=HN.out;omega)
    have hx0:ls[k]? =some 0:=hx
    have hrp:1<=ddZ ls k 64:=by have:=emZ hx0 63;show 1<=ddZ ls k (63+1);omega
    have hr64:=pwZ ls 64 k
    rw[HN.out]at hr0
    rw[jgZ ls (n-k-1) n (k+ddZ ls k 64) (by have:=HN.out;omega) (by have:=HN.out;omega)]at hg0
    have HG0:=hid hg0
    have HX0:=hid hx0
    have HR:=hid (show k+ddZ ls k 64<=n from hr0)
    have k1:decide ((0:Int)<0)=false:=by decide
    clear hg0 hx c0 hgx hst hr0 hx0 hrp hr64 HG hle0 hl0
    go_wp2_with fail
    go_loopw [7] (fun rv wx=>∃r:Nat,1<=r/\r<=64/\k+r<=n/\rv= .int .i64 r/\Hid (∀j,j<r->ls[k+j]? =some 0)/\wx=wr) (fun rv _=>64-(intOf rv).toNat)
    case atStart=>exact⟨1,by omega,by omega,by omega,rfl,(fun j hj=>by obtain rfl:j=0:=(by omega);exact HX0.out),rfl⟩
    case round=>
     obtain⟨r,hr1,hr2,hr3,rfl,hz,rfl⟩:=hrel
     have done:(r=64∨ls[k+r]? ≠some 0)->Hid (ddZ ls k 64=r):=fun h=>kyZ hr2 hz.out h
     have x1:IntKind.i64.wrap ((k:Int)+(r:Int))=(k:Int)+(r:Int):=by rw[IntKind.wrap_i64];omega
     by_cases hA:r<64
     ·have a1:decide ((r:Int)<64)=true:=by simp;omega
      have a2:decide (r<64)=true:=by simpa using hA
      by_cases hB:k+r<n
      ·obtain⟨_,_,y,e9,_,hy,d0⟩:=bbZ HA.out HN.out hB
       injection e9 with e9
       injection e9 with e8 e7
       subst e8 e7
       have d1:=(World.cell?_of_block (a:=⟨ob,off+(k+r),none⟩) (HK.out.block ob KOB.out)).trans d0
       have bf1:decide ((k:Int)+(r:Int)<(n:Int))=true:=by simp;omega
       have bf2:decide (k+r<n)=true:=by simpa using hB
       have bf3:(0:Int)<=(k:Int)+(r:Int):=by omega
       have bf4:(k:Int)+(r:Int)<(n:Int):=by omega
       have bf5:((k:Int)+(r:Int)).toNat=k+r:=by omega
       by_cases hC:y=0
       ·subst hC
        have hz2:Hid (∀j,j<r+1->ls[k+j]? =some 0):=by
         intro j hj
         by_cases e:j=r
         ·subst e;exact hy
         ·exact hz.out j (by omega)
        have hA2:r+1<=64:=hA
        have hB2:k+(r+1)<=n:=by omega
        clear hy d0 done
        go_wp2_with fail
        go_roundw
        case measure=>go_light;simp[intOf];omega
        case rel=>go_light;refine⟨r+1,Nat.le_add_left 1 r,hA2,hB2,by go_num,hz2,?_⟩;first|rfl|trivial
       ·have c5:((y:Int)==0)=false:=by simp;omega
        have HZ:=done (.inr (by rw[hy];simpa using hC))
        clear hy d0 hC done
        obtain⟨q,hq⟩:∃q,q=r-1:=⟨_,rfl⟩
        have x2:IntKind.i64.wrap ((r:Int)-1)=(q:Int):=by rw[IntKind.wrap_i64];omega
        have x3:IntKind.u64.wrap (q:Int)=(q:Int):=by rw[IntKind.wrap_u64];omega
        have hgz:=HG0.out
        rw[HZ.out,<-hq,<-List.append_assoc,<-List.append_assoc]at hgz
        have HGZ:=hid hgz
        have e1:=HL.out
        have e2:=HLE.out
        have D1:=hid (put_any K wr g base t rest v1 b1 0 4 (by omega) (by omega) (by omega) HW.out)
        have D2:=hid (fun w2 v2 h=>put_any K w2 g base t rest v2 (b1++msb 0 4 4) q 6 (show q<64 by omega) (by omega) (by rw[List.length_append,uZ];omega) h)
        have HL0:Hid ((b1++msb 0 4 4++msb q 6 6).length<=bs.length+10*(k+r)):=by show _<=_;rw[List.length_append,List.length_append,uZ,uZ];omega
        clear hq hgz e1 e2 HG0
        go_wp2_with fail
        refine D1.out.mono ?_
        rintro e w2 ⟨rfl,v2,hW2,hk2⟩
        have HW2:=hid hW2
        have HK2:Hid (Kept K w w2):=HK.out.trans hk2
        clear hW2 hk2 D1
        go_wp2_with fail
        refine(D2.out w2 v2 HW2.out).mono ?_
        rintro e w3 ⟨rfl,v3,hW3,hk3⟩
        have HW3:=hid hW3
        have HK3:Hid (Kept K w w3):=HK2.out.trans hk3
        clear hW3 hk3 D2
        go_wp2_with fail
        go_roundw
        case measure=>go_light;simp[intOf];omega
        case rel=>go_light;exact⟨k+r,v3,_,by omega,by go_num,HW3.out,HGZ.out,HL0.out,HK3.out⟩
      ·have bf1:decide ((k:Int)+(r:Int)<(n:Int))=false:=by simp;omega
       have bf2:decide (k+r<n)=false:=by simpa using hB
       have HZ:=done (.inr (by rw[List.getElem?_eq_none (by have:=HN.out;omega)];simp))
       clear done
       obtain⟨q,hq⟩:∃q,q=r-1:=⟨_,rfl⟩
       have x2:IntKind.i64.wrap ((r:Int)-1)=(q:Int):=by rw[IntKind.wrap_i64];omega
       have x3:IntKind.u64.wrap (q:Int)=(q:Int):=by rw[IntKind.wrap_u64];omega
       have hgz:=HG0.out
       rw[HZ.out,<-hq,<-List.append_assoc,<-List.append_assoc]at hgz
       have HGZ:=hid hgz
       have e1:=HL.out
       have e2:=HLE.out
       have D1:=hid (put_any K wr g base t rest v1 b1 0 4 (by omega) (by omega) (by omega) HW.out)
       have D2:=hid (fun w2 v2 h=>put_any K w2 g base t rest v2 (b1++msb 0 4 4) q 6 (show q<64 by omega) (by omega) (by rw[List.length_append,uZ];omega) h)
       have HL0:Hid ((b1++msb 0 4 4++msb q 6 6).length<=bs.length+10*(k+r)):=by show _<=_;rw[List.length_append,List.length_append,uZ,uZ];omega
       clear hq hgz e1 e2 HG0
       go_wp2_with fail
       refine D1.out.mono ?_
       rintro e w2 ⟨rfl,v2,hW2,hk2⟩
       have HW2:=hid hW2
       have HK2:Hid (Kept K w w2):=HK.out.trans hk2
       clear hW2 hk2 D1
       go_wp2_with fail
       refine(D2.out w2 v2 HW2.out).mono ?_
       rintro e w3 ⟨rfl,v3,hW3,hk3⟩
       have HW3:=hid hW3
       have HK3:Hid (Kept K w w3):=HK2.out.trans hk3
       clear hW3 hk3 D2
       go_wp2_with fail
       go_roundw
       case measure=>go_light;simp[intOf];omega
       case rel=>go_light;exact⟨k+r,v3,_,by omega,by go_num,HW3.out,HGZ.out,HL0.out,HK3.out⟩
     ·have a1:decide ((r:Int)<64)=false:=by simp;omega
      have a2:decide (r<64)=false:=by simpa using hA
      have HZ:=done (.inl (by omega))
      clear done
      obtain⟨q,hq⟩:∃q,q=r-1:=⟨_,rfl⟩
      have x2:IntKind.i64.wrap ((r:Int)-1)=(q:Int):=by rw[IntKind.wrap_i64];omega
      have x3:IntKind.u64.wrap (q:Int)=(q:Int):=by rw[IntKind.wrap_u64];omega
      have hgz:=HG0.out
      rw[HZ.out,<-hq,<-List.append_assoc,<-List.append_assoc]at hgz
      have HGZ:=hid hgz
      have e1:=HL.out
      have e2:=HLE.out
      have D1:=hid (put_any K wr g base t rest v1 b1 0 4 (by omega) (by omega) (by omega) HW.out)
      have D2:=hid (fun w2 v2 h=>put_any K w2 g base t rest v2 (b1++msb 0 4 4) q 6 (show q<64 by omega) (by omega) (by rw[List.length_append,uZ];omega) h)
      have HL0:Hid ((b1++msb 0 4 4++msb q 6 6).length<=bs.length+10*(k+r)):=by show _<=_;rw[List.length_append,List.length_append,uZ,uZ];omega
      clear hq hgz e1 e2 HG0
      go_wp2_with fail
      refine D1.out.mono ?_
      rintro e w2 ⟨rfl,v2,hW2,hk2⟩
      have HW2:=hid hW2
      have HK2:Hid (Kept K w w2):=HK.out.trans hk2
      clear hW2 hk2 D1
      go_wp2_with fail
      refine(D2.out w2 v2 HW2.out).mono ?_
      rintro e w3 ⟨rfl,v3,hW3,hk3⟩
      have HW3:=hid hW3
      have HK3:Hid (Kept K w w3):=HK2.out.trans hk3
      clear hW3 hk3 D2
      go_wp2_with fail
      go_roundw
      case measure=>go_light;simp[intOf];omega
      case rel=>go_light;exact⟨k+r,v3,_,by omega,by go_num,HW3.out,HGZ.out,HL0.out,HK3.out⟩
   ·have hxp:0<x:=by omega
    rw[if_neg h0,jgZ ls (n-k-1) n (k+1) (by have:=HN.out;omega) (by have:=HN.out;omega),<-List.append_assoc]at hg0
    have D:=hid (put_any K wr g base t rest v1 b1 x 4 (by omega) (by omega) (by omega) HW.out)
    have k1:decide (0<x)=true:=by simpa using hxp
    have k2:decide ((0:Int)<(x:Int))=true:=by simpa using hxp
    have s1:IntKind.u64.wrap (x:Int)=(x:Int):=by rw[IntKind.wrap_u64];omega
    have HG0:=hid hg0
    have HL0:Hid ((b1++msb x 4 4).length<=bs.length+10*(k+1)):=by show _<=_;rw[List.length_append,uZ];omega
    clear hg0 hl0 hle0 hx c0 hgx hst h0 HG HW HL
    go_wp2_with fail
    refine D.out.mono ?_
    rintro e w2 ⟨rfl,v2,hW2,hk2⟩
    have HW2:=hid hW2
    have HK2:Hid (Kept K w w2):=HK.out.trans hk2
    clear hW2 hk2 D
    go_wp2_with fail
    go_roundw
    case measure=>go_light;simp[intOf];omega
    case rel=>go_light;exact⟨k+1,v2,_,by omega,by go_num,HW2.out,HG0.out,HL0.out,HK2.out⟩
  ·obtain rfl:k=n:=by omega
   rw[siZ ls k k (by have:=HN.out;omega),List.append_nil]at hg0
   have HG0:=hid hg0
   clear hg0 hl0 hle0 HG
   go_wp2_with fail
   go_ret
   rw[<-HG0.out]
   exact⟨rfl,v1,HW.out,HK.out⟩
end Go.Proofs.YtmlaajebadfkoaaGreatDoor.Huff
