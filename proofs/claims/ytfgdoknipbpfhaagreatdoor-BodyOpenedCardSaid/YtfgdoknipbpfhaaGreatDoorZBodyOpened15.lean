/- The walk of bits' ro -/
import Derived.Test.YtfgdoknipbpfhaaGreatDoorZBodyOpened3
import Derived.BigRegion
import Derived.Laws.BitsLemmas
import Derived.Laws.Bits64b
namespace Go.Proofs.YtfgdoknipbpfhaaGreatDoor
open Go.Proofs.Tryz
open Go.Lib (hid)
set_option maxRecDepth 100000
variable{w:World}{base c g i n r:Nat}{t:TypeId}{A:Option Addr}{ls:List Nat}
namespace Huff
open Go.RowKit Mem Canon Own
structure Wr (K:Nat->Prop) (w:World) (base g:Nat) (t:TypeId) (rest:List Value) (bs:List Bool) (v:Value):Prop where
 blk:Blk w g t (List.toArray (v :: .int .i64 (bs.length:Nat) :: rest))
 own:w.ownsRow base 5 1 v (bytesOf bs).length (cZ .u8 (bytesOf bs))
 ne:v.ownBlock≠some g
 base:base<=w.heap.size
 kg:¬K g
 kv:∀x,v.ownBlock=some x->¬K x
 kK:∀k,K k->k<w.heap.size
theorem Wr.drew{K:Nat->Prop}{rest:List Value}{bs:List Bool}{v:Value}(h:Wr K w base g t rest bs v):Wr K w.drew base g t rest bs v:=
 ⟨h.blk.drew,h.own,h.ne,h.base,h.kg,h.kv,h.kK⟩
structure Room (K:Nat->Prop) (w wx:World) (base g g2 c2:Nat) (t:TypeId) (rest:List Value) (bs:List Bool):Prop where
 blk:Blk wx g t (List.toArray (.slice (some ⟨g2,0,none⟩) (bs.length / 8+1) c2 :: .int .i64 (bs.length:Nat) :: rest))
 own:wx.ownsRow base 5 1 (.slice (some ⟨g2,0,none⟩) (bs.length / 8+1) c2) (bs.length / 8+1) (cZ .u8 (Iw bs))
 ne:g2≠g
 kg2:¬K g2
 kept:Kept K w wx
theorem dK{K:Nat->Prop}{w3:World}{c3:Nat}{rest:List Value}{bs:List Bool}{A3:Option Addr}(hW:Wr K w base g t rest bs (.slice A n c))(hm:bs.length % 8=0)(hn:n=(bs.length+7) / 8)
 (ho:w3.ownsRow base 5 1 (.slice A3 (n+1) c3) (n+1) (cZ .u8 (bytesOf bs)++ [.int .u8 0]))(hg:(w.alloc (.cells #[.int .u8 0] 5)).grownBy w3 (Value.slice A n c).ownBlock)
 (E:(Value.slice A3 (n+1) c3).ownBlock=(Value.slice A n c).ownBlock∨(Value.slice A3 (n+1) c3).ownBlock=some (w.alloc (.cells #[.int .u8 0] 5)).heap.size):
 ∃g2 c2,Room K w (w3.setCell ⟨g,0,none⟩ (.slice A3 (n+1) c3)) base g g2 c2 t rest bs:=by
 have G:=hW.blk.lt;obtain⟨g2,J,e⟩:=IS ho;injection e with e1 e2 e3;subst e1
 have i:g2≠g/\¬K g2:=by
  rcases E with h|h
  ·exact⟨fun e=>hW.ne (by rw[<-h,e];rfl),hW.kv g2 (by rw[<-h];rfl)⟩
  ·have h:g2=w.heap.size+1:=(by simpa[Value.ownBlock]using h);exact⟨mz,fun e=>by have:=hW.kK _ e;omega⟩
 have y:Blk w3 g t _:=((hW.blk.alloc (.cells #[.int .u8 0] 5))).grown hg (AZ hW.ne);have z:n=bs.length / 8:=mz
 subst z;have j:cZ .u8 (Iw bs)=cZ .u8 (bytesOf bs)++ [.int .u8 0]:=by unfold Iw;rw[Ae hm];simp[cZ]
 refine⟨g2,c3,?_,?_,i.1,i.2,?_⟩
 ·have h:=y.set 0 (.slice (some ⟨g2,0,none⟩) (bs.length / 8+1) c3)
  rwa [Mp]at h
 ·rw[j];exact eZ ho (fun x hx=>AV w3 _ _ x (by have hx:g2=x:=(by simpa[Value.ownBlock]using hx);subst hx;exact i.1))
 ·exact Kept.set (p:=⟨g,0,none⟩) (((Kept.refl K w).alloc hW.kK _).grown hg (fun k hk=>by have:=hW.kK k hk;simp;omega) hW.kv) hW.kg _
theorem bY{K:Nat->Prop}{rest:List Value}{bs:List Bool}(hW:Wr K w base g t rest bs (.slice A n c))(hm:¬bs.length % 8=0)(hn:n=(bs.length+7) / 8)
 (ho:w.ownsRow base 5 1 (.slice A n c) n (cZ .u8 (bytesOf bs))):∃g2 c2,Room K w w base g g2 c2 t rest bs:=by
 have i:n=bs.length / 8+1:=mz
 subst i;obtain⟨g2,j,e⟩:=IS ho;injection e with e1 e2 e3;subst e1;have h:Iw bs=bytesOf bs:=by unfold Iw;rw[Ab hm]
 exact⟨g2,c,hW.blk,by rw[h];exact ho,fun e=>hW.ne (by rw[e];rfl),hW.kv g2 rfl,Kept.refl _ _⟩
theorem Ui{K:Nat->Prop}{wx:World}{g2 c2:Nat}{rest:List Value}{bs:List Bool}(b:Bool)(hR:Room K w wx base g g2 c2 t rest bs)(hg:¬K g)(hK:∀k,K k->k<w.heap.size)(j:base<=w.heap.size):
 let w1:=((wx.setCell ⟨g2,bs.length / 8,none⟩ (.int .u8 (CT (bs++ [b]) (bs.length / 8):Nat))).setCell ⟨g,1,none⟩ (.int .i64 ((bs.length:Int)+1))).drew
 ∃v',Wr K w1 base g t rest (bs++ [b]) v'/\Kept K w w1:=by
 intro w1;have i:Kept K w w1:=(Kept.set (p:=⟨g,1,none⟩) (Kept.set (p:=⟨g2,bs.length / 8,none⟩) hR.kept hR.kg2 _) hg _).drew;refine⟨.slice (some ⟨g2,0,none⟩) (bs.length / 8+1) c2,⟨?_,?_,?_,AN j i.size,hg,?_,i.lt hK⟩,i⟩
 ·have h:=(hR.blk.far (p:=⟨g2,bs.length / 8,none⟩) (AZ hR.ne) (.int .u8 (CT (bs++ [b]) (bs.length / 8):Nat))).set 1 (.int .i64 ((bs.length:Int)+1));rw[Mp]at h;refine Blk.drew ?_;simpa using h
 ·have h:=(hR.own.stored (bs.length / 8) (.int .u8 (CT (bs++ [b]) (bs.length / 8):Nat))).1;have e:(cZ .u8 (Iw bs)).set (bs.length / 8) (.int .u8 (CT (bs++ [b]) (bs.length / 8):Nat))=cZ .u8 (bytesOf (bs++ [b])):=by rw[Yg];simp[cZ,List.map_set]
  rw[e]at h;have e2:(bytesOf (bs++ [b])).length=bs.length / 8+1:=by rw[bytesOf_length];simp;omega
  rw[e2];exact eZ h (fun x hx=>by have hx:g2=x:=(by simpa[Value.ownBlock]using hx);subst hx;exact AV _ _ _ g2 hR.ne)
 ·intro e;have e:g2=g:=by simpa[Value.ownBlock]using e
  exact hR.ne e
 ·intro x hx;have hx:g2=x:=by simpa[Value.ownBlock]using hx
  subst hx;exact hR.kg2
theorem nH(a b:Nat)(ha:a<256)(hb:b<256):bits .or .u8 (a:Int) (b:Int)=((a |||b:Nat):Int):=
 (bits_nat .u8 8 ip wraps_u8 a b ha hb).2
theorem or_bit(bs:List Bool)(b:Bool)(m:Nat)(hm:m=bs.length):bits .or .u8 ((CT bs (m / 8):Nat):Int) (((if b then 1 else 0)*2 ^ (7-m % 8):Nat):Int)=((CT (bs++ [b]) (m / 8):Nat):Int):=by
 subst hm;have h1:=Lu bs (bs.length / 8);have h2:(if b then 1 else 0)*2 ^ (7-bs.length % 8)<256:=by have:2 ^ (7-bs.length % 8)<=2 ^ 7:=Cl mz mz;split<;>omega
 rw[nH _ _ mz h2,WO]
theorem add_any(K:Nat->Prop)(w:World)(g base:Nat)(t:TypeId)(rest:List Value)(v:Value)(bs:List Bool)(b:Bool)(ab:bs.length<=6000000)(hW:Wr K w base g t rest bs v):
 Calls prog 234 #[.pointer (some ⟨g,0,none⟩), .int .u64 (if b then 1 else 0:Nat)] w fun e w'=>e= .returned (.tuple #[])/\∃v',Wr K w' base g t rest (bs++ [b]) v'/\Kept K w w':=by
 obtain⟨j0,ak,al,ae,af⟩:=info_parts Eo;have h:=hW.own;have ag:=Blk.lt hW.blk;have ah:(bytesOf bs).length<=800000:=by rw[bytesOf_length];omega
 have N:=bytesOf_length bs;generalize (bytesOf bs).length=n at *;obtain⟨A,c,rfl⟩:=bZ h;have M:=hW.base;have c0:=hW.blk.ia 0;have c1:=hW.blk.ia 1;have f0:=hW.blk.frozen 0;have f1:=hW.blk.frozen 1;have Y:=hW.ne;have HM:Hid (∃m,m=bs.length):=⟨_,rfl⟩;obtain⟨m,hm⟩:=HM.out;rw[<-hm]at c1 ab N;have i:=hid hm;have U:=hid N;have HW:=hid hW;clear hm N HM hW;have J:some g≠(Value.slice A n c).ownBlock:=AZ Y;generalize Q:((if b then 1 else 0:Nat):Int)=bv;have E:=hid Q;clear Q;go_enter func234,ntmps234;go_upto_if 9 with fail;go_cut [9] (fun s wx=>∃g2 c2,(∃u,s= .bool u)/\Room K w wx base g g2 c2 t rest bs)
 case first=>
  by_cases h8:m % 8=0
  ·go_wp2_with(at_builtin;refine iZ rfl (.tmp 14) (.tmp 15) 28 rfl base 5 j0 _ 1 1 underlying28 ak al ae af rfl ip _ _ _ nc (h.alloc _) _ 1 1 [.int .u8 0] nc (Src.of_blk (Blk.made _ _ _) 1 1 1 rfl) mp qg mz pQ ?_;intro v3 w3 j Z aa;obtain⟨A3,c3,rfl⟩:=bZ j;have gb:=Z.block g pQ J;have G:=gb.trans (Ed w _ g ag);have p0:=(World.cell?_of_block (a:=⟨g,0,none⟩) G).trans c0;have p1:=(World.cell?_of_block (a:=⟨g,1,none⟩) G).trans c1;have q0:=(World.frozen?_of_block (a:=⟨g,0,none⟩) G).trans f0;have q1:=(World.frozen?_of_block (a:=⟨g,1,none⟩) G).trans f1);go_meet
   case rel=>obtain⟨g2,c2,hR⟩:=dK HW.out (by rw[<-i.out];exact h8) (by rw[<-i.out];exact U.out) j Z aa;exact⟨g2,c2,⟨_,rfl⟩,hR⟩
  ·have an:((m:Int) % 8==0)=false:=pQ;go_wp2_with fail;go_meet
   case rel=>obtain⟨g2,c2,hR⟩:=bY HW.out (by rw[<-i.out];exact h8) (by rw[<-i.out];exact U.out) h;exact⟨g2,c2,⟨_,rfl⟩,hR⟩
 case rest=>
  clear c0 c1 f0 f1 h;obtain⟨g2,c2,⟨u,rfl⟩,hR⟩:=hcut;have c0:=hR.blk.ia 0;have c1:=hR.blk.ia 1;have f1:=hR.blk.frozen 1;rw[<-i.out]at c0 c1;have h:=hR.own;rw[<-i.out]at h;have d0:=h.cellAt (m / 8) mz;have f2:=h.frozenAt (m / 8);rw[RW]at d0;rw[<-i.out]at d0;have d1:wc.cell? ⟨g2,m / 8,none⟩=some (.int .u8 (CT bs (m / 8):Nat)):=by rw[d0];simp[cZ]
  have ai:=Lu bs (m / 8);obtain⟨y,hy⟩:=ii (CT bs (m / 8));rw[<-hy]at d1 ai;have HY:=hid hy;have HR:=hid hR;clear hy d0 h hR Y J ah M;have x0:(0:Int)<=(m:Int) / 8:=mz
  have x1:(m:Int) / 8<((m / 8:Nat):Int)+1:=mz
  have x2:(0:Int)<=7-(m:Int) % 8:=mz
  go_upto_region 2 with fail;have am:=HR.out.ne;cases b
  ·have aj:bv=0:=E.out.symm;subst aj;clear E;go_region;have e0:=or_bit bs false m i.out;rw[<-HY.out]at e0;simp only[Bool.false_eq_true,if_false,Nat.zero_mul]at e0;rw[show bits .or .u8 (y:Int) 0=_ from e0];clear x0 x1 x2 e0;go_wp2_with fail;refine bodyPost_end (BN rfl _ _ _) rfl ⟨rfl,?_⟩;rw[i.out];exact Ui _ HR.out HW.out.kg HW.out.kK HW.out.base
  ·have ac:bv=1:=E.out.symm;subst ac;clear E;go_region;have e0:=or_bit bs true m i.out;rw[<-HY.out]at e0;have e1:(((if true=true then 1 else 0)*2 ^ (7-m % 8):Nat):Int)=(2:Int) ^ (7-m % 8) % 256:=(by have:2 ^ (7-m % 8)<=2 ^ 7:=Cl mz mz;have h2:(2:Int) ^ (7-m % 8)=((2 ^ (7-m % 8):Nat):Int):=pI;rw[h2];simp only[if_true,Nat.one_mul];generalize 2 ^ (7-m % 8)=z at *;omega);rw[e1]at e0;rw[show bits .or .u8 (y:Int) (2 ^ (7-m % 8) % 256)=_ from e0];clear e1;clear x0 x1 x2 e0;go_wp2_with fail;refine bodyPost_end (BN rfl _ _ _) rfl ⟨rfl,?_⟩;rw[i.out];exact Ui _ HR.out HW.out.kg HW.out.kK HW.out.base
end Huff
namespace Huff
open Go.RowKit Mem Canon Own
theorem and_one(y:Nat)(hy:y<18446744073709551616):bits .and .u64 (y:Int) 1=((y % 2:Nat):Int):=kq
theorem put_any(K:Nat->Prop)(w:World)(g base:Nat)(t:TypeId)(rest:List Value)(v:Value)(bs:List Bool)(x n:Nat)(hx:x<2 ^ n)(hn:n<=64)(z:bs.length+n<=6000000)(hW:Wr K w base g t rest bs v):
 Calls prog 175 #[.pointer (some ⟨g,0,none⟩), .int .u64 (x:Nat), .int .i64 (n:Nat)] w fun e w'=>e= .returned (.int .i64 0)/\∃v',Wr K w' base g t rest (bs++msb x n n) v'/\Kept K w w':=by
 have E:x<18446744073709551616:=Et hx (by have:2 ^ n<=2 ^ 64:=Cl mz hn;omega);have HW:=hid hW;have Q:=hid z;have HX:=hid hx
 have hz:((x:Int) / 2 ^ n != 0)=false:=by
  have e:((x:Int) / 2 ^ n)=((x / 2 ^ n:Nat):Int):=pI
  rw[e,Nat.div_eq_of_lt hx];rfl
 have M:Wr K w base g t rest (bs++msb x n (n-n)) v:=by rw[Gn,W8,Ce];exact hW
 have N:=hid M;clear hW z hx M;go_enter func175,ntmps175;go_upto_region 1 with fail;go_cut [27] (fun s wx=>s= .bool false/\w=wx)
 case first=>
  go_wp2_with fail
  all_goals
   go_meet
   case rel=>exact⟨rfl,rfl⟩
 case rest=>
  obtain⟨rfl,rfl⟩:=hcut;clear hz;go_wp2_with fail;go_loopw [7] (fun i wr=>∃ (j:Nat) (v':Value),j<=n/\i= .int .i64 ((j:Int)-1)/\Hid (Wr K wr base g t rest (bs++msb x n (n-j)) v')/\Kept K w wr) (fun i _=>(intOf i+1).toNat)
  case atStart=>exact⟨n,v,mz,jp,N.out,Kept.refl _ _⟩
  case round=>
   obtain⟨j,v',hj,rfl,y,G⟩:=hrel;cases j with
   |zero=>have e:(((0:Nat):Int)-1)= -1:=mz;rw[e];clear e;go_wp2_with fail;go_ret;exact⟨rfl,v',y.out,G⟩
   |succ j=>
    have e:(((j+1:Nat):Int)-1)=(j:Int):=mz;rw[e];clear e;have hd:x / 2 ^ j<18446744073709551616:=Nat.lt_of_le_of_lt (Ho _ _) E;have hz:((x:Int) / 2 ^ j)=((x / 2 ^ j:Nat):Int):=pI;have C:Hid (Calls prog 234 #[.pointer (some ⟨g,0,none⟩), .int .u64 (bits .and .u64 ((x:Int) / 2 ^ j) 1)] wr.drew fun e w'=>e= .returned (.tuple #[])/\∃v',Wr K w' base g t rest (bs++msb x n (n-j)) v'/\Kept K wr.drew w'):=(by have h:=add_any K wr.drew g base t rest v' (bs++msb x n (n-(j+1))) (decide (x / 2 ^ j % 2=1)) (by rw[Aj,pZ];have:=Q.out;omega) y.out.drew;have e:n-j=n-(j+1)+1:=mz;rw[e,WJ,<-AJ,show n-1-(n-(j+1))=j by omega,hz,and_one _ hd,<-mQ];exact h);clear hz;go_upto_region 6 with fail;go_region_held3 (fun _=>True) (trivial) ((go_at_call 234;first|((with_reducible refine C.out.mono ?_);rintro e w' ⟨rfl,Y⟩)));obtain⟨v2,J,Z⟩:=Y;have U:=hid J;clear hd J y C;go_wp2_with fail;go_roundw
    case measure=>go_light;simp[intOf]
    case rel=>go_light;exact⟨j,v2,mz,jp,U.out,G.drew.trans Z⟩
end Huff
namespace Canon
open Huff
def BH(ls:List Nat)(i:Nat):Nat->Nat
 |0=>0
 |c+1=>if ls[i]? =some 0 then BH ls (i+1) c+1 else 0
theorem PH(ls:List Nat):∀ (c i:Nat),BH ls i c<=c
 |0,_=>Aq _
 |c+1,i=>by unfold BH;have:=PH ls c (i+1);split<;>omega
theorem Mw(ls:List Nat):∀ (c i:Nat),i<=ls.length->i+BH ls i c<=ls.length
 |0,i,h=>by simpa[BH]using h
 |c+1,i,h=>by
  unfold BH;split
  ·rename_i h0;have hl:=(CE.1 h0).1;have:=Mw ls c (i+1) hl;omega
  ·exact h
def Da(ls:List Nat):Nat->Nat->List Bool
 |0,_=> []
 |f+1,i=>
  if i<ls.length then
   if ls.getD i 0=0 then msb 0 4 4++(msb (BH ls i 64-1) 6 6++Da ls f (i+BH ls i 64))
   else msb (ls.getD i 0) 4 4++Da ls f (i+1)
  else []
def Er(ls:List Nat):List Bool:=Da ls ls.length 0
theorem JW(ls:List Nat)(f i:Nat)(h:ls.length<=i):Da ls f i= []:=by
 cases f with
 |zero=>rfl
 |succ f=>unfold Da;rw[Ab mz]
theorem Kv(h:ls[i]? =some 0)(c:Nat):BH ls i (c+1)=BH ls (i+1) c+1:=by rw[BH,Ae h]
theorem Ll(ls:List Nat):∀ (f f' i:Nat),ls.length<=i+f->ls.length<=i+f'->Da ls f i=Da ls f' i
 |0,f',i,h,_=>by rw[JW ls 0 i h,JW ls f' i h]
 |f+1,0,i,_,h=>by rw[JW ls 0 i h,JW ls (f+1) i h]
 |f+1,f'+1,i,h,h'=>by
  unfold Da;by_cases hi:i<ls.length
  ·rw[Ae hi,Ae hi];by_cases h0:ls.getD i 0=0
   ·rw[Ae h0,Ae h0];have hz:ls[i]? =some 0:=(by rw[Ar,AD hi]at h0;rw[AD hi];exact AE some h0);have j:BH ls i 64=BH ls (i+1) 63+1:=Kv hz 63;rw[Ll ls f f' (i+BH ls i 64) mz mz]
   ·rw[Ab h0,Ab h0,Ll ls f f' (i+1) mz mz]
  ·rw[Ab hi,Ab hi]
theorem wrGo_length(ls:List Nat):∀ (f i:Nat),(Da ls f i).length<=10*f
 |0,_=>Aq _
 |f+1,i=>by
  unfold Da;split
  ·split
   ·rw[Aj,Aj,pZ,pZ];have:=wrGo_length ls f (i+BH ls i 64);omega
   ·rw[Aj,pZ];have:=wrGo_length ls f (i+1);omega
  ·simp
end Canon
namespace Huff
open Go.RowKit Mem Canon Own
theorem Wr.step{K:Nat->Prop}{w':World}{rest:List Value}{bs:List Bool}{v:Value}(h:Wr K w base g t rest bs v)(hb:Below w w w'):Wr K w' base g t rest bs v:=
 ⟨h.blk.step hb,eZ h.own fun x hx=>hb.block x (Am h.own x hx).2,h.ne,AN h.base hb.size,h.kg,h.kv,fun k hk=>Et (h.kK k hk) hb.size⟩
theorem Wr.putRest{K:Nat->Prop}{rest:List Value}{bs:List Bool}{v:Value}(h:Wr K w base g t rest bs v)(i:Nat)(u:Value):Wr K (w.setCell ⟨g,i+2,none⟩ u) base g t (rest.set i u) bs v:=by have hz:=(B4 (B:=0) (p:=⟨g,i+2,none⟩) (u:=u) (Cr _) (Ag 0 w)).size;refine⟨?_,eZ h.own fun x hx=>AV w ⟨g,i+2,none⟩ u x (fun e=>h.ne (by rw[hx,e])),h.ne,AN h.base hz,h.kg,h.kv,fun k hk=>Et (h.kK k hk) hz⟩;have:=h.blk.set (i+2) u;rw[Mp]at this;exact this
theorem bD:∀ {c:Nat},r<=c->(∀j,j<r->ls[i+j]? =some 0)->BH ls i c=r+BH ls (i+r) (c-r):=by
 induction r generalizing i with
 |zero=>intro c _ _;simp
 |succ r ih=>
  intro c hc h;obtain⟨c,rfl⟩:∃d,c=d+1:=⟨c-1,mz⟩;have h0:ls[i]? =some 0:=by simpa using h 0 mz
  rw[Kv h0,ih (i:=i+1) (c:=c) mz (fun j hj=>by have:=h (j+1) mz;rwa [show i+(j+1)=i+1+j by omega]at this)];rw[show i+1+r=i+(r+1) by omega,show c+1-(r+1)=c-r by omega];omega
theorem Y5(h:r<=64)(hz:∀j,j<r->ls[i+j]? =some 0)(he:r=64∨ls[i+r]? ≠some 0):BH ls i 64=r:=by
 rw[bD h hz];rcases he with rfl|he
 ·simp[BH]
 ·by_cases h2:r=64
  ·subst h2;simp[BH]
  ·obtain⟨c,hc⟩:∃c,64-r=c+1:=⟨63-r,mz⟩;rw[hc,BH,Ab he];omega
set_option maxHeartbeats 1000000 in
theorem Y8(K:Nat->Prop)(w:World)(g base:Nat)(t:TypeId)(rest:List Value)(v:Value)(bs:List Bool)(A:Option Addr)(n c:Nat)(ls:List Nat)(hn:ls.length=n)(hN:n<=9223372036854775807)(aq:okB ls=true)(aw:0<n->∀p,A=some p->K p.block)(ha:Row w w A n 1 (jZ .u8 ls))(ar:bs.length+10*n<=5000000)(hW:Wr K w base g t rest bs v):
 Calls prog 276 #[.pointer (some ⟨g,0,none⟩), .slice A n c] w fun e w'=>e= .returned (.int .i64 0)/\∃v',Wr K w' base g t rest (bs++Er ls) v'/\Kept K w w':=by
 have hE:GM ls=0:=by unfold GM;rw[Ae aq]
 have C0:=PW w A n c ls hn hN ha;rw[hE]at C0;have C0:=hid C0;obtain⟨_,a0,_⟩:=ok_parts aq;have HN:=hid hn;have be:=hid a0;have ag:=hid ar;have HW:=hid hW;have HA:=hid ha;have a9:=hid aw;clear hn aq hE a0 ar hW ha aw;go_enter func276,ntmps276;go_wp2_with fail;refine C0.out.mono ?_;rintro e w1 ⟨rfl,ai⟩;have a3:=hid (HW.out.step ai);have ax:Hid (Kept K w w1):=Kept.of_below ai fun z hz=>HW.out.kK z hz;clear ai HW;go_wp2_with fail;go_loopw [6] (fun i wr=>∃ (k:Nat) (v:Value) (b:List Bool),k<=n/\i= .int .i64 k/\Hid (Wr K wr base g t rest b v)/\Hid (b++Da ls n k=bs++Er ls)/\Hid (b.length<=bs.length+10*k)/\Hid (Kept K w wr)) (fun i _=>n-(intOf i).toNat)
 case atStart=>exact⟨0,v,bs,mz,rfl,a3.out,by show _=_;unfold Er;rw[HN.out],pp,ax.out⟩
 case round=>
  clear a3 ax;obtain⟨k,v1,b1,hk,rfl,HW,HG,HL,HK⟩:=hrel;have E:=HG.out;have ak:=HL.out;have af:=ag.out;by_cases av:k<n
  ·obtain⟨ob,au,x,rfl,bg,hx,c0⟩:=CF HA.out HN.out av;have al:=hid (a9.out mz _ rfl);simp only at al;have c1:=(World.cell?_of_block (a:=⟨ob,au+k,none⟩) (HK.out.block ob al.out)).trans c0;have bf:=be.out x (Bg hx);have y0:(0:Int)<=(k:Int):=mz;have y1:(k:Int)<(n:Int):=mz;have am:ls.getD k 0=x:=(by rw[Ar,hx];rfl);have ah:Da ls n k=Da ls (n-k-1+1) k:=Ll ls _ _ _ lp lp;rw[ah]at E;unfold Da at E;rw[HN.out,Ae av,am]at E;by_cases h0:x=0
   ·subst h0;rw[Ae rfl]at E;have an:=Mw ls 64 k lp;have aj:ls[k]? =some 0:=hx;have bb:1<=BH ls k 64:=(by have:=Kv aj 63;show 1<=BH ls k (63+1);omega);have az:=PH ls 64 k;rw[HN.out]at an;rw[Ll ls (n-k-1) n (k+BH ls k 64) lp lp]at E;have N:=hid E;have a5:=hid aj;have HR:=hid (show k+BH ls k 64<=n from an);have k1:decide ((0:Int)<0)=false:=ip;clear E hx c0 am ah an aj bb az HG af ak;go_wp2_with fail;go_loopw [7] (fun rv wx=>∃r:Nat,1<=r/\r<=64/\k+r<=n/\rv= .int .i64 r/\Hid (∀j,j<r->ls[k+j]? =some 0)/\wx=wr) (fun rv _=>64-(intOf rv).toNat)
    case atStart=>exact⟨1,mz,mz,mz,rfl,(fun j hj=>by obtain rfl:j=0:=mz;exact a5.out),rfl⟩
    case round=>
     obtain⟨r,bk,a4,bh,rfl,hz,rfl⟩:=hrel;have done:(r=64∨ls[k+r]? ≠some 0)->Hid (BH ls k 64=r):=fun h=>Y5 a4 hz.out h;have x1:IntKind.i64.wrap ((k:Int)+(r:Int))=(k:Int)+(r:Int):=oI;by_cases hA:r<64
     ·have a1:=ic ((r:Int)<64);have a2:decide (r<64)=true:=(by simpa using hA);by_cases hB:k+r<n
      ·obtain⟨_,_,y,e9,_,hy,d0⟩:=CF HA.out HN.out hB;injection e9 with e9;injection e9 with e8 e7;subst e8 e7;have d1:=(World.cell?_of_block (a:=⟨ob,au+(k+r),none⟩) (HK.out.block ob al.out)).trans d0;have ba:=ic ((k:Int)+(r:Int)<(n:Int));have bd:decide (k+r<n)=true:=(by simpa using hB);have bi:(0:Int)<=(k:Int)+(r:Int):=mz;have bj:(k:Int)+(r:Int)<(n:Int):=mz;have bl:((k:Int)+(r:Int)).toNat=k+r:=mz;by_cases hC:y=0
       ·subst hC
        have bc:Hid (∀j,j<r+1->ls[k+j]? =some 0):=by
         intro j hj;by_cases e:j=r
         ·subst e;exact hy
         ·exact hz.out j mz
        have hA2:r+1<=64:=hA;have a6:k+(r+1)<=n:=mz;clear hy d0 done;go_wp2_with fail;go_roundw
        case measure=>exact jo
        case rel=>go_light;refine⟨r+1,Nat.le_add_left 1 r,hA2,a6,jp,bc,?_⟩;first|rfl|trivial
       ·have c5:((y:Int)==0)=false:=pQ;have HZ:=done (.inr (by rw[hy];simpa using hC));clear hy d0 hC done;obtain⟨q,hq⟩:=ii (r-1);have x2:IntKind.i64.wrap ((r:Int)-1)=(q:Int):=oI;have x3:IntKind.u64.wrap (q:Int)=(q:Int):=n5;have J:=N.out;rw[HZ.out,<-hq,<-AJ,<-AJ]at J;have ae:=hid J;have e1:=HL.out;have e2:=ag.out;have D1:=hid (put_any K wr g base t rest v1 b1 0 4 mz mz mz HW.out);have D2:=hid (fun w2 v2 h=>put_any K w2 g base t rest v2 (b1++msb 0 4 4) q 6 (show q<64 by omega) mz ny h);have aa:Hid ((b1++msb 0 4 4++msb q 6 6).length<=bs.length+10*(k+r)):=pq;clear hq J e1 e2 N;go_wp2_with fail;refine D1.out.mono ?_;rintro e w2 ⟨rfl,v2,M,G⟩;have Z:=hid M;have Y:Hid (Kept K w w2):=HK.out.trans G;clear M G D1;go_wp2_with fail;refine(D2.out w2 v2 Z.out).mono ?_;rintro e w3 ⟨rfl,v3,U,Q⟩;have ab:=hid U;have ac:Hid (Kept K w w3):=Y.out.trans Q;clear U Q D2;go_wp2_with fail;go_roundw
        case measure=>exact jo
        case rel=>exact jj
      ·have ba:=ig ((k:Int)+(r:Int)<(n:Int));have bd:decide (k+r<n)=false:=(by simpa using hB);have HZ:=done (.inr (by rw[Fp lp];simp));clear done;obtain⟨q,hq⟩:=ii (r-1);have x2:IntKind.i64.wrap ((r:Int)-1)=(q:Int):=oI;have x3:IntKind.u64.wrap (q:Int)=(q:Int):=n5;have J:=N.out;rw[HZ.out,<-hq,<-AJ,<-AJ]at J;have ae:=hid J;have e1:=HL.out;have e2:=ag.out;have D1:=hid (put_any K wr g base t rest v1 b1 0 4 mz mz mz HW.out);have D2:=hid (fun w2 v2 h=>put_any K w2 g base t rest v2 (b1++msb 0 4 4) q 6 (show q<64 by omega) mz ny h);have aa:Hid ((b1++msb 0 4 4++msb q 6 6).length<=bs.length+10*(k+r)):=pq;clear hq J e1 e2 N;go_wp2_with fail;refine D1.out.mono ?_;rintro e w2 ⟨rfl,v2,M,G⟩;have Z:=hid M;have Y:Hid (Kept K w w2):=HK.out.trans G;clear M G D1;go_wp2_with fail;refine(D2.out w2 v2 Z.out).mono ?_;rintro e w3 ⟨rfl,v3,U,Q⟩;have ab:=hid U;have ac:Hid (Kept K w w3):=Y.out.trans Q;clear U Q D2;go_wp2_with fail;go_roundw
       case measure=>exact jo
       case rel=>exact jj
     ·have a1:=ig ((r:Int)<64);have a2:decide (r<64)=false:=(by simpa using hA);have HZ:=done (.inl mz);clear done;obtain⟨q,hq⟩:=ii (r-1);have x2:IntKind.i64.wrap ((r:Int)-1)=(q:Int):=oI;have x3:IntKind.u64.wrap (q:Int)=(q:Int):=n5;have J:=N.out;rw[HZ.out,<-hq,<-AJ,<-AJ]at J;have ae:=hid J;have e1:=HL.out;have e2:=ag.out;have D1:=hid (put_any K wr g base t rest v1 b1 0 4 mz mz mz HW.out);have D2:=hid (fun w2 v2 h=>put_any K w2 g base t rest v2 (b1++msb 0 4 4) q 6 (show q<64 by omega) mz ny h);have aa:Hid ((b1++msb 0 4 4++msb q 6 6).length<=bs.length+10*(k+r)):=pq;clear hq J e1 e2 N;go_wp2_with fail;refine D1.out.mono ?_;rintro e w2 ⟨rfl,v2,M,G⟩;have Z:=hid M;have Y:Hid (Kept K w w2):=HK.out.trans G;clear M G D1;go_wp2_with fail;refine(D2.out w2 v2 Z.out).mono ?_;rintro e w3 ⟨rfl,v3,U,Q⟩;have ab:=hid U;have ac:Hid (Kept K w w3):=Y.out.trans Q;clear U Q D2;go_wp2_with fail;go_roundw
      case measure=>exact jo
      case rel=>exact jj
   ·have ay:0<x:=mz;rw[Ab h0,Ll ls (n-k-1) n (k+1) lp lp,<-AJ]at E;have D:=hid (put_any K wr g base t rest v1 b1 x 4 mz mz mz HW.out);have k1:decide (0<x)=true:=(by simpa using ay);have k2:decide ((0:Int)<(x:Int))=true:=(by simpa using ay);have s1:IntKind.u64.wrap (x:Int)=(x:Int):=n5;have N:=hid E;have aa:Hid ((b1++msb x 4 4).length<=bs.length+10*(k+1)):=(by show _<=_;rw[Aj,pZ];omega);clear E ak af hx c0 am ah h0 HG HW HL;go_wp2_with fail;refine D.out.mono ?_;rintro e w2 ⟨rfl,v2,M,G⟩;have Z:=hid M;have Y:Hid (Kept K w w2):=HK.out.trans G;clear M G D;go_wp2_with fail;go_roundw
    case measure=>exact jo
    case rel=>go_light;exact⟨k+1,v2,_,mz,jp,Z.out,N.out,aa.out,Y.out⟩
  ·obtain rfl:k=n:=by omega
   rw[JW ls k k lp,Ce]at E;have N:=hid E;clear E ak af HG;go_wp2_with fail;go_ret;rw[<-N.out];exact⟨rfl,v1,HW.out,HK.out⟩
end Huff
end Go.Proofs.YtfgdoknipbpfhaaGreatDoor
