/- The walk of bits' ro -/
import Derived.Test.YtfgdoknipbpfhaaGreatDoorZTwoBack3
import Derived.BigRegion
import Derived.Laws.BitsLemmas
import Derived.Laws.Bits64b
namespace Go.Proofs.YtfgdoknipbpfhaaGreatDoor
open Go.Proofs.Tryz
open Go.Lib (hid)
set_option maxRecDepth 100000
variable{w:World}{base c g i n r:Nat}{t:TypeId}{A:Option Addr}{ls:List Nat}
open Go.RowKit
structure Wr (K:Nat->Prop) (w:World) (base g:Nat) (t:TypeId) (rest:List Value) (bs:List Bool) (v:Value):Prop where
 blk:Blk w g t (List.toArray (v :: .int .i64 (bs.length:Nat) :: rest))
 own:w.ownsRow base 5 1 v (bytesOf bs).length (dZ .u8 (bytesOf bs))
 ne:v.ownBlock≠some g
 base:base<=w.heap.size
 kg:¬K g
 kv:∀x,v.ownBlock=some x->¬K x
 kK:∀k,K k->k<w.heap.size
theorem Wr.drew{K:Nat->Prop}{rest:List Value}{bs:List Bool}{v:Value}(h:Wr K w base g t rest bs v):Wr K w.drew base g t rest bs v:=
 ⟨h.blk.drew,h.own,h.ne,h.base,h.kg,h.kv,h.kK⟩
structure Room (K:Nat->Prop) (w wx:World) (base g g2 c2:Nat) (t:TypeId) (rest:List Value) (bs:List Bool):Prop where
 blk:Blk wx g t (List.toArray (.slice (some ⟨g2,0,none⟩) (bs.length / 8+1) c2 :: .int .i64 (bs.length:Nat) :: rest))
 own:wx.ownsRow base 5 1 (.slice (some ⟨g2,0,none⟩) (bs.length / 8+1) c2) (bs.length / 8+1) (dZ .u8 (IY bs))
 ne:g2≠g
 kg2:¬K g2
 kept:Kept K w wx
theorem lH{K:Nat->Prop}{w3:World}{c3:Nat}{rest:List Value}{bs:List Bool}{A3:Option Addr}(hW:Wr K w base g t rest bs (.slice A n c))(hm:bs.length % 8=0)(hn:n=(bs.length+7) / 8)
 (ho:w3.ownsRow base 5 1 (.slice A3 (n+1) c3) (n+1) (dZ .u8 (bytesOf bs)++ [.int .u8 0]))(hg:(w.alloc (.cells #[.int .u8 0] 5)).grownBy w3 (Value.slice A n c).ownBlock)
 (z:(Value.slice A3 (n+1) c3).ownBlock=(Value.slice A n c).ownBlock∨(Value.slice A3 (n+1) c3).ownBlock=some (w.alloc (.cells #[.int .u8 0] 5)).heap.size):
 ∃g2 c2,Room K w (w3.setCell ⟨g,0,none⟩ (.slice A3 (n+1) c3)) base g g2 c2 t rest bs:=by
 have J:=hW.blk.lt;obtain⟨g2,G,e⟩:=Jm ho;injection e with e1 e2 e3;subst e1
 have i:g2≠g/\¬K g2:=by
  rcases z with h|h
  ·exact⟨fun e=>hW.ne (by rw[<-h,e];rfl),hW.kv g2 (by rw[<-h];rfl)⟩
  ·have h:g2=w.heap.size+1:=(by simpa[Value.ownBlock]using h);exact⟨nj,fun e=>by have:=hW.kK _ e;omega⟩
 have y:Blk w3 g t _:=((hW.blk.alloc (.cells #[.int .u8 0] 5))).grown hg (Ba hW.ne);have E:n=bs.length / 8:=nj
 subst E;have j:dZ .u8 (IY bs)=dZ .u8 (bytesOf bs)++ [.int .u8 0]:=by unfold IY;rw[Ab hm];simp[dZ]
 refine⟨g2,c3,?_,?_,i.1,i.2,?_⟩
 ·have h:=y.set 0 (.slice (some ⟨g2,0,none⟩) (bs.length / 8+1) c3)
  rwa [Oi]at h
 ·rw[j];exact eZ ho (fun x hx=>AW w3 _ _ x (by have hx:g2=x:=(by simpa[Value.ownBlock]using hx);subst hx;exact i.1))
 ·exact Kept.set (p:=⟨g,0,none⟩) (((Kept.refl K w).alloc hW.kK _).grown hg (fun k hk=>by have:=hW.kK k hk;simp;omega) hW.kv) hW.kg _
theorem kL{K:Nat->Prop}{rest:List Value}{bs:List Bool}(hW:Wr K w base g t rest bs (.slice A n c))(hm:¬bs.length % 8=0)(hn:n=(bs.length+7) / 8)
 (ho:w.ownsRow base 5 1 (.slice A n c) n (dZ .u8 (bytesOf bs))):∃g2 c2,Room K w w base g g2 c2 t rest bs:=by
 have i:n=bs.length / 8+1:=nj
 subst i;obtain⟨g2,j,e⟩:=Jm ho;injection e with e1 e2 e3;subst e1;have h:IY bs=bytesOf bs:=by unfold IY;rw[Aa hm]
 exact⟨g2,c,hW.blk,by rw[h];exact ho,fun e=>hW.ne (by rw[e];rfl),hW.kv g2 rfl,Kept.refl _ _⟩
theorem Vk{K:Nat->Prop}{wx:World}{g2 c2:Nat}{rest:List Value}{bs:List Bool}(b:Bool)(hR:Room K w wx base g g2 c2 t rest bs)(hg:¬K g)(hK:∀k,K k->k<w.heap.size)(j:base<=w.heap.size):
 let w1:=((wx.setCell ⟨g2,bs.length / 8,none⟩ (.int .u8 (Dk (bs++ [b]) (bs.length / 8):Nat))).setCell ⟨g,1,none⟩ (.int .i64 ((bs.length:Int)+1))).drew
 ∃v',Wr K w1 base g t rest (bs++ [b]) v'/\Kept K w w1:=by
 intro w1;have i:Kept K w w1:=(Kept.set (p:=⟨g,1,none⟩) (Kept.set (p:=⟨g2,bs.length / 8,none⟩) hR.kept hR.kg2 _) hg _).drew;refine⟨.slice (some ⟨g2,0,none⟩) (bs.length / 8+1) c2,⟨?_,?_,?_,AN j i.size,hg,?_,i.lt hK⟩,i⟩
 ·have h:=(hR.blk.far (p:=⟨g2,bs.length / 8,none⟩) (Ba hR.ne) (.int .u8 (Dk (bs++ [b]) (bs.length / 8):Nat))).set 1 (.int .i64 ((bs.length:Int)+1));rw[Oi]at h;refine Blk.drew ?_;simpa using h
 ·have h:=(hR.own.stored (bs.length / 8) (.int .u8 (Dk (bs++ [b]) (bs.length / 8):Nat))).1;have e:(dZ .u8 (IY bs)).set (bs.length / 8) (.int .u8 (Dk (bs++ [b]) (bs.length / 8):Nat))=dZ .u8 (bytesOf (bs++ [b])):=by rw[ZP];simp[dZ,List.map_set]
  rw[e]at h;have e2:(bytesOf (bs++ [b])).length=bs.length / 8+1:=by rw[bytesOf_length];simp;omega
  rw[e2];exact eZ h (fun x hx=>by have hx:g2=x:=(by simpa[Value.ownBlock]using hx);subst hx;exact AW _ _ _ g2 hR.ne)
 ·intro e;have e:g2=g:=by simpa[Value.ownBlock]using e
  exact hR.ne e
 ·intro x hx;have hx:g2=x:=by simpa[Value.ownBlock]using hx
  subst hx;exact hR.kg2
theorem mN(a b:Nat)(ha:a<256)(hb:b<256):bits .or .u8 (a:Int) (b:Int)=((a |||b:Nat):Int):=
 (bits_nat .u8 8 ip wraps_u8 a b ha hb).2
theorem or_bit(bs:List Bool)(b:Bool)(m:Nat)(hm:m=bs.length):bits .or .u8 ((Dk bs (m / 8):Nat):Int) (((if b then 1 else 0)*2 ^ (7-m % 8):Nat):Int)=((Dk (bs++ [b]) (m / 8):Nat):Int):=by
 subst hm;have h1:=LI bs (bs.length / 8);have h2:(if b then 1 else 0)*2 ^ (7-bs.length % 8)<256:=by have:2 ^ (7-bs.length % 8)<=2 ^ 7:=Cm nj nj;split<;>omega
 rw[mN _ _ nj h2,m8]
theorem a2s{p:Prop}(h:p:=by clear x0 x1 x2 e0;go_wp2_with fail;refine bodyPost_end (Cb rfl _ _ _) rfl ⟨rfl,?_⟩;rw[i.out];exact Vk _ HR.out HW.out.kg HW.out.kK HW.out.base):p:=h
theorem Ac8(K:Nat->Prop)(w:World)(g base:Nat)(t:TypeId)(rest:List Value)(v:Value)(bs:List Bool)(b:Bool)(aj:bs.length<=6000000)(hW:Wr K w base g t rest bs v):
 Calls prog 234 #[.pointer (some ⟨g,0,none⟩), .int .u64 (if b then 1 else 0:Nat)] w fun e w'=>e= .returned (.tuple #[])/\∃v',Wr K w' base g t rest (bs++ [b]) v'/\Kept K w w':=by
 obtain⟨j0,ak,ai,ah,ae⟩:=info_parts Dh;have h:=hW.own;have ac:=Blk.lt hW.blk;have aa:(bytesOf bs).length<=800000:=by rw[bytesOf_length];omega
 have M:=bytesOf_length bs;generalize (bytesOf bs).length=n at *;obtain⟨A,c,rfl⟩:=bZ h;have L:=hW.base;have c0:=hW.blk.ia 0;have c1:=hW.blk.ia 1;have f0:=hW.blk.frozen 0;have f1:=hW.blk.frozen 1;have U:=hW.ne;have HM:Hid (∃m,m=bs.length):=⟨_,rfl⟩;obtain⟨m,hm⟩:=HM.out;rw[<-hm]at c1 aj M;have i:=hid hm;have Z:=hid M;have HW:=hid hW;clear hm M HM hW;have J:some g≠(Value.slice A n c).ownBlock:=Ba U;generalize Y:((if b then 1 else 0:Nat):Int)=bv;have E:=hid Y;clear Y;go_enter func234,ntmps234;go_upto_if 9 with fail;go_cut [9] (fun s wx=>∃g2 c2,(∃u,s= .bool u)/\Room K w wx base g g2 c2 t rest bs)
 case first=>
  by_cases h8:m % 8=0
  ·go_wp2_with(at_builtin;refine iZ rfl (.tmp 14) (.tmp 15) 28 rfl base 5 j0 _ 1 1 underlying28 ak ai ah ae rfl ip _ _ _ nm (h.alloc _) _ 1 1 [.int .u8 0] nm (Src.of_blk (Blk.made _ _ _) 1 1 1 rfl) mu sS nj sj ?_;intro v3 w3 j N Q;obtain⟨A3,c3,rfl⟩:=bZ j;have gb:=N.block g sj J;have G:=gb.trans (EA w _ g ac);have p0:=(World.cell?_of_block (a:=⟨g,0,none⟩) G).trans c0;have p1:=(World.cell?_of_block (a:=⟨g,1,none⟩) G).trans c1;have q0:=(World.frozen?_of_block (a:=⟨g,0,none⟩) G).trans f0;have q1:=(World.frozen?_of_block (a:=⟨g,1,none⟩) G).trans f1);go_meet
   case rel=>obtain⟨g2,c2,hR⟩:=lH HW.out (by rw[<-i.out];exact h8) (by rw[<-i.out];exact Z.out) j N Q;exact⟨g2,c2,⟨_,rfl⟩,hR⟩
  ·have am:((m:Int) % 8==0)=false:=sj;go_wp2_with fail;go_meet
   case rel=>obtain⟨g2,c2,hR⟩:=kL HW.out (by rw[<-i.out];exact h8) (by rw[<-i.out];exact Z.out) h;exact⟨g2,c2,⟨_,rfl⟩,hR⟩
 case rest=>
  clear c0 c1 f0 f1 h;obtain⟨g2,c2,⟨u,rfl⟩,hR⟩:=hcut;have c0:=hR.blk.ia 0;have c1:=hR.blk.ia 1;have f1:=hR.blk.frozen 1;rw[<-i.out]at c0 c1;have h:=hR.own;rw[<-i.out]at h;have d0:=h.cellAt (m / 8) nj;have f2:=h.frozenAt (m / 8);rw[TA]at d0;rw[<-i.out]at d0;have d1:wc.cell? ⟨g2,m / 8,none⟩=some (.int .u8 (Dk bs (m / 8):Nat)):=by rw[d0];simp[dZ]
  have af:=LI bs (m / 8);obtain⟨y,hy⟩:=ii (Dk bs (m / 8));rw[<-hy]at d1 af;have HY:=hid hy;have HR:=hid hR;clear hy d0 h hR U J aa L;have x0:(0:Int)<=(m:Int) / 8:=nj
  have x1:(m:Int) / 8<((m / 8:Nat):Int)+1:=nj
  have x2:(0:Int)<=7-(m:Int) % 8:=nj
  go_upto_region 2 with fail;have al:=HR.out.ne;cases b
  ·have ab:bv=0:=E.out.symm;subst ab;clear E;go_region;have e0:=or_bit bs false m i.out;rw[<-HY.out]at e0;simp only[Bool.false_eq_true,if_false,Nat.zero_mul]at e0;rw[show bits .or .u8 (y:Int) 0=_ from e0];exact a2s
  ·have ag:bv=1:=E.out.symm;subst ag;clear E;go_region;have e0:=or_bit bs true m i.out;rw[<-HY.out]at e0;have e1:(((if true=true then 1 else 0)*2 ^ (7-m % 8):Nat):Int)=(2:Int) ^ (7-m % 8) % 256:=(by have:2 ^ (7-m % 8)<=2 ^ 7:=Cm nj nj;have h2:(2:Int) ^ (7-m % 8)=((2 ^ (7-m % 8):Nat):Int):=rX;rw[h2];simp only[if_true,Nat.one_mul];generalize 2 ^ (7-m % 8)=z at *;omega);rw[e1]at e0;rw[show bits .or .u8 (y:Int) (2 ^ (7-m % 8) % 256)=_ from e0];clear e1;exact a2s
theorem and_one(y:Nat)(hy:y<18446744073709551616):bits .and .u64 (y:Int) 1=((y % 2:Nat):Int):=ku
theorem Ad3(K:Nat->Prop)(w:World)(g base:Nat)(t:TypeId)(rest:List Value)(v:Value)(bs:List Bool)(x n:Nat)(hx:x<2 ^ n)(hn:n<=64)(z:bs.length+n<=6000000)(hW:Wr K w base g t rest bs v):
 Calls prog 175 #[.pointer (some ⟨g,0,none⟩), .int .u64 (x:Nat), .int .i64 (n:Nat)] w fun e w'=>e= .returned (.int .i64 0)/\∃v',Wr K w' base g t rest (bs++msb x n n) v'/\Kept K w w':=by
 have J:x<18446744073709551616:=Ek hx (by have:2 ^ n<=2 ^ 64:=Cm nj hn;omega);have HW:=hid hW;have U:=hid z;have HX:=hid hx
 have hz:((x:Int) / 2 ^ n != 0)=false:=by
  have e:((x:Int) / 2 ^ n)=((x / 2 ^ n:Nat):Int):=rX
  rw[e,Nat.div_eq_of_lt hx];rfl
 have L:Wr K w base g t rest (bs++msb x n (n-n)) v:=by rw[G0,Zy,Cg];exact hW
 have N:=hid L;clear hW z hx L;go_enter func175,ntmps175;go_upto_region 1 with fail;go_cut [27] (fun s wx=>s= .bool false/\w=wx)
 case first=>
  go_wp2_with fail
  all_goals
   go_meet
   case rel=>exact⟨rfl,rfl⟩
 case rest=>
  obtain⟨rfl,rfl⟩:=hcut;clear hz;go_wp2_with fail;go_loopw [7] (fun i wr=>∃ (j:Nat) (v':Value),j<=n/\i= .int .i64 ((j:Int)-1)/\Hid (Wr K wr base g t rest (bs++msb x n (n-j)) v')/\Kept K w wr) (fun i _=>(intOf i+1).toNat)
  case atStart=>exact⟨n,v,nj,jr,N.out,Kept.refl _ _⟩
  case round=>
   obtain⟨j,v',hj,rfl,y,E⟩:=hrel;cases j with
   |zero=>have e:(((0:Nat):Int)-1)= -1:=nj;rw[e];clear e;go_wp2_with fail;go_ret;exact⟨rfl,v',y.out,E⟩
   |succ j=>
    have e:(((j+1:Nat):Int)-1)=(j:Int):=nj;rw[e];clear e;have hd:x / 2 ^ j<18446744073709551616:=Nat.lt_of_le_of_lt (Ix _ _) J;have hz:((x:Int) / 2 ^ j)=((x / 2 ^ j:Nat):Int):=rX;have C:Hid (Calls prog 234 #[.pointer (some ⟨g,0,none⟩), .int .u64 (bits .and .u64 ((x:Int) / 2 ^ j) 1)] wr.drew fun e w'=>e= .returned (.tuple #[])/\∃v',Wr K w' base g t rest (bs++msb x n (n-j)) v'/\Kept K wr.drew w'):=(by have h:=Ac8 K wr.drew g base t rest v' (bs++msb x n (n-(j+1))) (decide (x / 2 ^ j % 2=1)) (by rw[Ag,tZ];have:=U.out;omega) y.out.drew;have e:n-j=n-(j+1)+1:=nj;rw[e,Zd,<-AE,show n-1-(n-(j+1))=j by omega,hz,and_one _ hd,<-lX];exact h);clear hz;go_upto_region 6 with fail;go_region_held3 (fun _=>True) (trivial) ((go_at_call 234;first|((with_reducible refine C.out.mono ?_);rintro e w' ⟨rfl,M⟩)));obtain⟨v2,G,Q⟩:=M;have Y:=hid G;clear hd G y C;go_wp2_with fail;go_roundw
    case measure=>go_light;simp[intOf]
    case rel=>go_light;exact⟨j,v2,nj,jr,Y.out,E.drew.trans Q⟩
def BZ(ls:List Nat)(i:Nat):Nat->Nat
 |0=>0
 |c+1=>if ls[i]? =some 0 then BZ ls (i+1) c+1 else 0
theorem OB(ls:List Nat):∀ (c i:Nat),BZ ls i c<=c
 |0,_=>Ak _
 |c+1,i=>by unfold BZ;have:=OB ls c (i+1);split<;>omega
theorem N3(ls:List Nat):∀ (c i:Nat),i<=ls.length->i+BZ ls i c<=ls.length
 |0,i,h=>by simpa[BZ]using h
 |c+1,i,h=>by
  unfold BZ;split
  ·rename_i h0;have hl:=(CQ.1 h0).1;have:=N3 ls c (i+1) hl;omega
  ·exact h
def DQ(ls:List Nat):Nat->Nat->List Bool
 |0,_=> []
 |f+1,i=>
  if i<ls.length then
   if ls.getD i 0=0 then msb 0 4 4++(msb (BZ ls i 64-1) 6 6++DQ ls f (i+BZ ls i 64))
   else msb (ls.getD i 0) 4 4++DQ ls f (i+1)
  else []
def ED(ls:List Nat):List Bool:=DQ ls ls.length 0
theorem J9(ls:List Nat)(f i:Nat)(h:ls.length<=i):DQ ls f i= []:=by
 cases f with
 |zero=>rfl
 |succ f=>unfold DQ;rw[Aa nj]
theorem LK(h:ls[i]? =some 0)(c:Nat):BZ ls i (c+1)=BZ ls (i+1) c+1:=by rw[BZ,Ab h]
theorem LB(ls:List Nat):∀ (f f' i:Nat),ls.length<=i+f->ls.length<=i+f'->DQ ls f i=DQ ls f' i
 |0,f',i,h,_=>by rw[J9 ls 0 i h,J9 ls f' i h]
 |f+1,0,i,_,h=>by rw[J9 ls 0 i h,J9 ls (f+1) i h]
 |f+1,f'+1,i,h,h'=>by
  unfold DQ;by_cases hi:i<ls.length
  ·rw[Ab hi,Ab hi];by_cases h0:ls.getD i 0=0
   ·rw[Ab h0,Ab h0];have hz:ls[i]? =some 0:=(by rw[Aq,Az hi]at h0;rw[Az hi];exact Aw some h0);have j:BZ ls i 64=BZ ls (i+1) 63+1:=LK hz 63;rw[LB ls f f' (i+BZ ls i 64) nj nj]
   ·rw[Aa h0,Aa h0,LB ls f f' (i+1) nj nj]
  ·rw[Aa hi,Aa hi]
theorem Ad4(ls:List Nat):∀ (f i:Nat),(DQ ls f i).length<=10*f
 |0,_=>Ak _
 |f+1,i=>by
  unfold DQ;split
  ·split
   ·rw[Ag,Ag,tZ,tZ];have:=Ad4 ls f (i+BZ ls i 64);omega
   ·rw[Ag,tZ];have:=Ad4 ls f (i+1);omega
  ·simp
theorem Wr.step{K:Nat->Prop}{w':World}{rest:List Value}{bs:List Bool}{v:Value}(h:Wr K w base g t rest bs v)(hb:Below w w w'):Wr K w' base g t rest bs v:=
 ⟨h.blk.step hb,eZ h.own fun x hx=>hb.block x (Aj h.own x hx).2,h.ne,AN h.base hb.size,h.kg,h.kv,fun k hk=>Ek (h.kK k hk) hb.size⟩
theorem Wr.putRest{K:Nat->Prop}{rest:List Value}{bs:List Bool}{v:Value}(h:Wr K w base g t rest bs v)(i:Nat)(u:Value):Wr K (w.setCell ⟨g,i+2,none⟩ u) base g t (rest.set i u) bs v:=by have hz:=(BS (B:=0) (p:=⟨g,i+2,none⟩) (u:=u) (Bf _) (Ae 0 w)).size;refine⟨?_,eZ h.own fun x hx=>AW w ⟨g,i+2,none⟩ u x (fun e=>h.ne (by rw[hx,e])),h.ne,AN h.base hz,h.kg,h.kv,fun k hk=>Ek (h.kK k hk) hz⟩;have:=h.blk.set (i+2) u;rw[Oi]at this;exact this
theorem jR:∀ {c:Nat},r<=c->(∀j,j<r->ls[i+j]? =some 0)->BZ ls i c=r+BZ ls (i+r) (c-r):=by
 induction r generalizing i with
 |zero=>intro c _ _;simp
 |succ r ih=>
  intro c hc h;obtain⟨c,rfl⟩:∃d,c=d+1:=⟨c-1,nj⟩;have h0:ls[i]? =some 0:=by simpa using h 0 nj
  rw[LK h0,ih (i:=i+1) (c:=c) nj (fun j hj=>by have:=h (j+1) nj;rwa [show i+(j+1)=i+1+j by omega]at this)];rw[show i+1+r=i+(r+1) by omega,show c+1-(r+1)=c-r by omega];omega
theorem pP(h:r<=64)(hz:∀j,j<r->ls[i+j]? =some 0)(he:r=64∨ls[i+r]? ≠some 0):BZ ls i 64=r:=by
 rw[jR h hz];rcases he with rfl|he
 ·simp[BZ]
 ·by_cases h2:r=64
  ·subst h2;simp[BZ]
  ·obtain⟨c,hc⟩:∃c,64-r=c+1:=⟨63-r,nj⟩;rw[hc,BZ,Aa he];omega
theorem a0l{p:Prop}(h:p:=by
  obtain⟨q,hq⟩:=ii (r-1);have x2:IntKind.i64.wrap ((r:Int)-1)=(q:Int):=qk;have x3:IntKind.u64.wrap (q:Int)=(q:Int):=pm;have G:=M.out;rw[HZ.out,<-hq,<-AE,<-AE]at G;have ae:=hid G;have e1:=HL.out;have e2:=af.out;have D1:=hid (Ad3 K wr g base t rest v1 b1 0 4 nj nj nj HW.out);have D2:=hid (fun w2 v2 h=>Ad3 K w2 g base t rest v2 (b1++msb 0 4 4) q 6 (show q<64 by omega) nj pd h);have U:Hid ((b1++msb 0 4 4++msb q 6 6).length<=bs.length+10*(k+r)):=rL;clear hq G e1 e2 M;go_wp2_with fail;refine D1.out.mono ?_;rintro e w2 ⟨rfl,v2,L,J⟩;have Y:=hid L;have Z:Hid (Kept K w w2):=HK.out.trans J;clear L J D1;go_wp2_with fail;refine(D2.out w2 v2 Y.out).mono ?_;rintro e w3 ⟨rfl,v3,Q,N⟩;have aa:=hid Q;have ab:Hid (Kept K w w3):=Z.out.trans N;clear Q N D2;go_wp2_with fail;go_roundw
  case measure=>exact jq
  case rel=>exact jl):p:=h
set_option maxHeartbeats 1000000 in
theorem qQ(K:Nat->Prop)(w:World)(g base:Nat)(t:TypeId)(rest:List Value)(v:Value)(bs:List Bool)(A:Option Addr)(n c:Nat)(ls:List Nat)(hn:ls.length=n)(hN:n<=9223372036854775807)(ah:okB ls=true)(au:0<n->∀p,A=some p->K p.block)(ha:Row w w A n 1 (jZ .u8 ls))(ay:bs.length+10*n<=5000000)(hW:Wr K w base g t rest bs v):
 Calls prog 276 #[.pointer (some ⟨g,0,none⟩), .slice A n c] w fun e w'=>e= .returned (.int .i64 0)/\∃v',Wr K w' base g t rest (bs++ED ls) v'/\Kept K w w':=by
 have hE:Ho ls=0:=by unfold Ho;rw[Ab ah]
 have C0:=O2 w A n c ls hn hN ha;rw[hE]at C0;have C0:=hid C0;obtain⟨_,a0,_⟩:=Ab0 ah;have HN:=hid hn;have a9:=hid a0;have af:=hid ay;have HW:=hid hW;have HA:=hid ha;have a3:=hid au;clear hn ah hE a0 ay hW ha au;go_enter func276,ntmps276;go_wp2_with fail;refine C0.out.mono ?_;rintro e w1 ⟨rfl,ai⟩;have av:=hid (HW.out.step ai);have az:Hid (Kept K w w1):=Kept.of_below ai fun z hz=>HW.out.kK z hz;clear ai HW;go_wp2_with fail;go_loopw [6] (fun i wr=>∃ (k:Nat) (v:Value) (b:List Bool),k<=n/\i= .int .i64 k/\Hid (Wr K wr base g t rest b v)/\Hid (b++DQ ls n k=bs++ED ls)/\Hid (b.length<=bs.length+10*k)/\Hid (Kept K w wr)) (fun i _=>n-(intOf i).toNat)
 case atStart=>exact⟨0,v,bs,nj,rfl,av.out,by show _=_;unfold ED;rw[HN.out],rK,az.out⟩
 case round=>
  clear av az;obtain⟨k,v1,b1,hk,rfl,HW,HG,HL,HK⟩:=hrel;have E:=HG.out;have ag:=HL.out;have ac:=af.out;by_cases ax:k<n
  ·obtain⟨ob,aw,x,rfl,bh,hx,c0⟩:=CO HA.out HN.out ax;have al:=hid (a3.out nj _ rfl);simp only at al;have c1:=(World.cell?_of_block (a:=⟨ob,aw+k,none⟩) (HK.out.block ob al.out)).trans c0;have bc:=a9.out x (Bp hx);have y0:(0:Int)<=(k:Int):=nj;have y1:(k:Int)<(n:Int):=nj;have aj:ls.getD k 0=x:=(by rw[Aq,hx];rfl);have am:DQ ls n k=DQ ls (n-k-1+1) k:=LB ls _ _ _ ly ly;rw[am]at E;unfold DQ at E;rw[HN.out,Ab ax,aj]at E;by_cases h0:x=0
   ·subst h0;rw[Ab rfl]at E;have ak:=N3 ls 64 k ly;have an:ls[k]? =some 0:=hx;have ba:1<=BZ ls k 64:=(by have:=LK an 63;show 1<=BZ ls k (63+1);omega);have aq:=OB ls 64 k;rw[HN.out]at ak;rw[LB ls (n-k-1) n (k+BZ ls k 64) ly ly]at E;have M:=hid E;have a7:=hid an;have HR:=hid (show k+BZ ls k 64<=n from ak);have k1:decide ((0:Int)<0)=false:=ip;clear E hx c0 aj am ak an ba aq HG ac ag;go_wp2_with fail;go_loopw [7] (fun rv wx=>∃r:Nat,1<=r/\r<=64/\k+r<=n/\rv= .int .i64 r/\Hid (∀j,j<r->ls[k+j]? =some 0)/\wx=wr) (fun rv _=>64-(intOf rv).toNat)
    case atStart=>exact⟨1,nj,nj,nj,rfl,(fun j hj=>by obtain rfl:j=0:=nj;exact a7.out),rfl⟩
    case round=>
     obtain⟨r,bi,a6,be,rfl,hz,rfl⟩:=hrel;have done:(r=64∨ls[k+r]? ≠some 0)->Hid (BZ ls k 64=r):=fun h=>pP a6 hz.out h;have x1:IntKind.i64.wrap ((k:Int)+(r:Int))=(k:Int)+(r:Int):=qk;by_cases hA:r<64
     ·have a1:=ic ((r:Int)<64);have a2:decide (r<64)=true:=(by simpa using hA);by_cases hB:k+r<n
      ·obtain⟨_,_,y,e9,_,hy,d0⟩:=CO HA.out HN.out hB;injection e9 with e9;injection e9 with e8 e7;subst e8 e7;have d1:=(World.cell?_of_block (a:=⟨ob,aw+(k+r),none⟩) (HK.out.block ob al.out)).trans d0;have a5:=ic ((k:Int)+(r:Int)<(n:Int));have a8:decide (k+r<n)=true:=(by simpa using hB);have bg:(0:Int)<=(k:Int)+(r:Int):=nj;have bf:(k:Int)+(r:Int)<(n:Int):=nj;have bd:((k:Int)+(r:Int)).toNat=k+r:=nj;by_cases hC:y=0
       ·subst hC
        have a4:Hid (∀j,j<r+1->ls[k+j]? =some 0):=by
         intro j hj;by_cases e:j=r
         ·subst e;exact hy
         ·exact hz.out j nj
        have hA2:r+1<=64:=hA;have bb:k+(r+1)<=n:=nj;clear hy d0 done;go_wp2_with fail;go_roundw
        case measure=>exact jq
        case rel=>go_light;refine⟨r+1,Nat.le_add_left 1 r,hA2,bb,jr,a4,?_⟩;first|rfl|trivial
       ·have c5:((y:Int)==0)=false:=sj;have HZ:=done (.inr (by rw[hy];simpa using hC));clear hy d0 hC done;exact a0l
      ·have a5:=ig ((k:Int)+(r:Int)<(n:Int));have a8:decide (k+r<n)=false:=(by simpa using hB);have HZ:=done (.inr (by rw[FN ly];simp));clear done;exact a0l
     ·have a1:=ig ((r:Int)<64);have a2:decide (r<64)=false:=(by simpa using hA);have HZ:=done (.inl nj);clear done;exact a0l
   ·have ar:0<x:=nj;rw[Aa h0,LB ls (n-k-1) n (k+1) ly ly,<-AE]at E;have D:=hid (Ad3 K wr g base t rest v1 b1 x 4 nj nj nj HW.out);have k1:decide (0<x)=true:=(by simpa using ar);have k2:decide ((0:Int)<(x:Int))=true:=(by simpa using ar);have s1:IntKind.u64.wrap (x:Int)=(x:Int):=pm;have M:=hid E;have U:Hid ((b1++msb x 4 4).length<=bs.length+10*(k+1)):=(by show _<=_;rw[Ag,tZ];omega);clear E ag ac hx c0 aj am h0 HG HW HL;go_wp2_with fail;refine D.out.mono ?_;rintro e w2 ⟨rfl,v2,L,J⟩;have Y:=hid L;have Z:Hid (Kept K w w2):=HK.out.trans J;clear L J D;go_wp2_with fail;go_roundw
    case measure=>exact jq
    case rel=>go_light;exact⟨k+1,v2,_,nj,jr,Y.out,M.out,U.out,Z.out⟩
  ·obtain rfl:k=n:=by omega
   rw[J9 ls k k ly,Cg]at E;have M:=hid E;clear E ag ac HG;go_wp2_with fail;go_ret;rw[<-M.out];exact⟨rfl,v1,HW.out,HK.out⟩
end Go.Proofs.YtfgdoknipbpfhaaGreatDoor
