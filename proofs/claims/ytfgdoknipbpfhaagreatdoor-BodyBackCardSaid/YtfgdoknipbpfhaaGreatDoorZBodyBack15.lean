/- The walk of bits' ro -/
import Derived.Test.YtfgdoknipbpfhaaGreatDoorZBodyBack3
import Derived.BigRegion
import Derived.Laws.BitsLemmas
import Derived.Laws.Bits64b
namespace Go.Proofs.YtfgdoknipbpfhaaGreatDoor
open Go.Proofs.Tryz
open Go.Lib (hid)
set_option maxRecDepth 100000
variable{w:World}{base c g i n r:Nat}{t:TypeId}{A:Option Addr}{ls:List Nat}
namespace Huff
open Go.RowKit Mem Canon Own
structure Wr (K:Nat->Prop) (w:World) (base g:Nat) (t:TypeId) (rest:List Value) (bs:List Bool) (v:Value):Prop where
 blk:Blk w g t (List.toArray (v :: .int .i64 (bs.length:Nat) :: rest))
 own:w.ownsRow base 5 1 v (bytesOf bs).length (cZ .u8 (bytesOf bs))
 ne:v.ownBlock≠some g
 base:base<=w.heap.size
 kg:¬K g
 kv:∀x,v.ownBlock=some x->¬K x
 kK:∀k,K k->k<w.heap.size
theorem Wr.drew{K:Nat->Prop}{rest:List Value}{bs:List Bool}{v:Value}(h:Wr K w base g t rest bs v):Wr K w.drew base g t rest bs v:=
 ⟨h.blk.drew,h.own,h.ne,h.base,h.kg,h.kv,h.kK⟩
structure Room (K:Nat->Prop) (w wx:World) (base g g2 c2:Nat) (t:TypeId) (rest:List Value) (bs:List Bool):Prop where
 blk:Blk wx g t (List.toArray (.slice (some ⟨g2,0,none⟩) (bs.length / 8+1) c2 :: .int .i64 (bs.length:Nat) :: rest))
 own:wx.ownsRow base 5 1 (.slice (some ⟨g2,0,none⟩) (bs.length / 8+1) c2) (bs.length / 8+1) (cZ .u8 (Ik bs))
 ne:g2≠g
 kg2:¬K g2
 kept:Kept K w wx
theorem mE{K:Nat->Prop}{w3:World}{c3:Nat}{rest:List Value}{bs:List Bool}{A3:Option Addr}(hW:Wr K w base g t rest bs (.slice A n c))(hm:bs.length % 8=0)(hn:n=(bs.length+7) / 8)
 (ho:w3.ownsRow base 5 1 (.slice A3 (n+1) c3) (n+1) (cZ .u8 (bytesOf bs)++ [.int .u8 0]))(hg:(w.alloc (.cells #[.int .u8 0] 5)).grownBy w3 (Value.slice A n c).ownBlock)
 (E:(Value.slice A3 (n+1) c3).ownBlock=(Value.slice A n c).ownBlock∨(Value.slice A3 (n+1) c3).ownBlock=some (w.alloc (.cells #[.int .u8 0] 5)).heap.size):
 ∃g2 c2,Room K w (w3.setCell ⟨g,0,none⟩ (.slice A3 (n+1) c3)) base g g2 c2 t rest bs:=by
 have J:=hW.blk.lt;obtain⟨g2,G,e⟩:=IT ho;injection e with e1 e2 e3;subst e1
 have i:g2≠g/\¬K g2:=by
  rcases E with h|h
  ·exact⟨fun e=>hW.ne (by rw[<-h,e];rfl),hW.kv g2 (by rw[<-h];rfl)⟩
  ·have h:g2=w.heap.size+1:=(by simpa[Value.ownBlock]using h);exact⟨nj,fun e=>by have:=hW.kK _ e;omega⟩
 have y:Blk w3 g t _:=((hW.blk.alloc (.cells #[.int .u8 0] 5))).grown hg (AZ hW.ne);have z:n=bs.length / 8:=nj
 subst z;have j:cZ .u8 (Ik bs)=cZ .u8 (bytesOf bs)++ [.int .u8 0]:=by unfold Ik;rw[Ab hm];simp[cZ]
 refine⟨g2,c3,?_,?_,i.1,i.2,?_⟩
 ·have h:=y.set 0 (.slice (some ⟨g2,0,none⟩) (bs.length / 8+1) c3)
  rwa [Nk]at h
 ·rw[j]
  exact eZ ho (fun x hx=>AY w3 _ _ x (by have hx:g2=x:=(by simpa[Value.ownBlock]using hx);subst hx;exact i.1))
 ·exact Kept.set (p:=⟨g,0,none⟩) (((Kept.refl K w).alloc hW.kK _).grown hg (fun k hk=>by have:=hW.kK k hk;simp;omega) hW.kv) hW.kg _
theorem lK{K:Nat->Prop}{rest:List Value}{bs:List Bool}(hW:Wr K w base g t rest bs (.slice A n c))(hm:¬bs.length % 8=0)(hn:n=(bs.length+7) / 8)
 (ho:w.ownsRow base 5 1 (.slice A n c) n (cZ .u8 (bytesOf bs))):∃g2 c2,Room K w w base g g2 c2 t rest bs:=by
 have i:n=bs.length / 8+1:=nj
 subst i;obtain⟨g2,j,e⟩:=IT ho;injection e with e1 e2 e3;subst e1;have h:Ik bs=bytesOf bs:=by unfold Ik;rw[Aa hm]
 exact⟨g2,c,hW.blk,by rw[h];exact ho,fun e=>hW.ne (by rw[e];rfl),hW.kv g2 rfl,Kept.refl _ _⟩
theorem TM{K:Nat->Prop}{wx:World}{g2 c2:Nat}{rest:List Value}{bs:List Bool}(b:Bool)(hR:Room K w wx base g g2 c2 t rest bs)(hg:¬K g)(hK:∀k,K k->k<w.heap.size)(j:base<=w.heap.size):
 let w1:=((wx.setCell ⟨g2,bs.length / 8,none⟩ (.int .u8 (CV (bs++ [b]) (bs.length / 8):Nat))).setCell ⟨g,1,none⟩ (.int .i64 ((bs.length:Int)+1))).drew
 ∃v',Wr K w1 base g t rest (bs++ [b]) v'/\Kept K w w1:=by
 intro w1;have i:Kept K w w1:=(Kept.set (p:=⟨g,1,none⟩) (Kept.set (p:=⟨g2,bs.length / 8,none⟩) hR.kept hR.kg2 _) hg _).drew;refine⟨.slice (some ⟨g2,0,none⟩) (bs.length / 8+1) c2,⟨?_,?_,?_,AN j i.size,hg,?_,i.lt hK⟩,i⟩
 ·have h:=(hR.blk.far (p:=⟨g2,bs.length / 8,none⟩) (AZ hR.ne) (.int .u8 (CV (bs++ [b]) (bs.length / 8):Nat))).set 1 (.int .i64 ((bs.length:Int)+1));rw[Nk]at h;refine Blk.drew ?_;simpa using h
 ·have h:=(hR.own.stored (bs.length / 8) (.int .u8 (CV (bs++ [b]) (bs.length / 8):Nat))).1;have e:(cZ .u8 (Ik bs)).set (bs.length / 8) (.int .u8 (CV (bs++ [b]) (bs.length / 8):Nat))=cZ .u8 (bytesOf (bs++ [b])):=by rw[Xm];simp[cZ,List.map_set]
  rw[e]at h;have e2:(bytesOf (bs++ [b])).length=bs.length / 8+1:=by rw[bytesOf_length];simp;omega
  rw[e2];exact eZ h (fun x hx=>by have hx:g2=x:=(by simpa[Value.ownBlock]using hx);subst hx;exact AY _ _ _ g2 hR.ne)
 ·intro e;have e:g2=g:=by simpa[Value.ownBlock]using e
  exact hR.ne e
 ·intro x hx;have hx:g2=x:=by simpa[Value.ownBlock]using hx
  subst hx;exact hR.kg2
theorem Y4(a b:Nat)(ha:a<256)(hb:b<256):bits .or .u8 (a:Int) (b:Int)=((a |||b:Nat):Int):=
 (bits_nat .u8 8 ip wraps_u8 a b ha hb).2
theorem or_bit(bs:List Bool)(b:Bool)(m:Nat)(hm:m=bs.length):bits .or .u8 ((CV bs (m / 8):Nat):Int) (((if b then 1 else 0)*2 ^ (7-m % 8):Nat):Int)=((CV (bs++ [b]) (m / 8):Nat):Int):=by
 subst hm;have h1:=KV bs (bs.length / 8);have h2:(if b then 1 else 0)*2 ^ (7-bs.length % 8)<256:=by have:2 ^ (7-bs.length % 8)<=2 ^ 7:=Cn nj nj;split<;>omega
 rw[Y4 _ _ nj h2,dJ]
theorem add_any(K:Nat->Prop)(w:World)(g base:Nat)(t:TypeId)(rest:List Value)(v:Value)(bs:List Bool)(b:Bool)(af:bs.length<=6000000)(hW:Wr K w base g t rest bs v):
 Calls prog 234 #[.pointer (some ⟨g,0,none⟩), .int .u64 (if b then 1 else 0:Nat)] w fun e w'=>e= .returned (.tuple #[])/\∃v',Wr K w' base g t rest (bs++ [b]) v'/\Kept K w w':=by
 obtain⟨j0,aj,ai,ab,ak⟩:=info_parts Eg;have h:=hW.own;have ag:=Blk.lt hW.blk;have ac:(bytesOf bs).length<=800000:=by rw[bytesOf_length];omega
 have L:=bytesOf_length bs;generalize (bytesOf bs).length=n at *;obtain⟨A,c,rfl⟩:=bZ h;have M:=hW.base;have c0:=hW.blk.ia 0;have c1:=hW.blk.ia 1;have f0:=hW.blk.frozen 0;have f1:=hW.blk.frozen 1;have Q:=hW.ne;have HM:Hid (∃m,m=bs.length):=⟨_,rfl⟩;obtain⟨m,hm⟩:=HM.out;rw[<-hm]at c1 af L;have i:=hid hm;have Y:=hid L;have HW:=hid hW;clear hm L HM hW;have J:some g≠(Value.slice A n c).ownBlock:=AZ Q;generalize U:((if b then 1 else 0:Nat):Int)=bv;have E:=hid U;clear U;go_enter func234,ntmps234;go_upto_if 9 with fail;go_cut [9] (fun s wx=>∃g2 c2,(∃u,s= .bool u)/\Room K w wx base g g2 c2 t rest bs)
 case first=>
  by_cases h8:m % 8=0
  ·go_wp2_with(at_builtin;refine iZ rfl (.tmp 14) (.tmp 15) 28 rfl base 5 j0 _ 1 1 underlying28 aj ai ab ak rfl ip _ _ _ nm (h.alloc _) _ 1 1 [.int .u8 0] nm (Src.of_blk (Blk.made _ _ _) 1 1 1 rfl) mv rE nj rg ?_;intro v3 w3 j Z N;obtain⟨A3,c3,rfl⟩:=bZ j;have gb:=Z.block g rg J;have G:=gb.trans (Ej w _ g ag);have p0:=(World.cell?_of_block (a:=⟨g,0,none⟩) G).trans c0;have p1:=(World.cell?_of_block (a:=⟨g,1,none⟩) G).trans c1;have q0:=(World.frozen?_of_block (a:=⟨g,0,none⟩) G).trans f0;have q1:=(World.frozen?_of_block (a:=⟨g,1,none⟩) G).trans f1);go_meet
   case rel=>obtain⟨g2,c2,hR⟩:=mE HW.out (by rw[<-i.out];exact h8) (by rw[<-i.out];exact Y.out) j Z N;exact⟨g2,c2,⟨_,rfl⟩,hR⟩
  ·have am:((m:Int) % 8==0)=false:=rg;go_wp2_with fail;go_meet
   case rel=>obtain⟨g2,c2,hR⟩:=lK HW.out (by rw[<-i.out];exact h8) (by rw[<-i.out];exact Y.out) h;exact⟨g2,c2,⟨_,rfl⟩,hR⟩
 case rest=>
  clear c0 c1 f0 f1 h;obtain⟨g2,c2,⟨u,rfl⟩,hR⟩:=hcut;have c0:=hR.blk.ia 0;have c1:=hR.blk.ia 1;have f1:=hR.blk.frozen 1;rw[<-i.out]at c0 c1;have h:=hR.own;rw[<-i.out]at h;have d0:=h.cellAt (m / 8) nj;have f2:=h.frozenAt (m / 8);rw[SN]at d0;rw[<-i.out]at d0;have d1:wc.cell? ⟨g2,m / 8,none⟩=some (.int .u8 (CV bs (m / 8):Nat)):=by rw[d0];simp[cZ]
  have aa:=KV bs (m / 8);obtain⟨y,hy⟩:=ii (CV bs (m / 8));rw[<-hy]at d1 aa;have HY:=hid hy;have HR:=hid hR;clear hy d0 h hR Q J ac M;have x0:(0:Int)<=(m:Int) / 8:=nj
  have x1:(m:Int) / 8<((m / 8:Nat):Int)+1:=nj
  have x2:(0:Int)<=7-(m:Int) % 8:=nj
  go_upto_region 2 with fail;have al:=HR.out.ne;cases b
  ·have ae:bv=0:=E.out.symm;subst ae;clear E;go_region;have e0:=or_bit bs false m i.out;rw[<-HY.out]at e0;simp only[Bool.false_eq_true,if_false,Nat.zero_mul]at e0;rw[show bits .or .u8 (y:Int) 0=_ from e0];clear x0 x1 x2 e0;go_wp2_with fail;refine bodyPost_end (BY rfl _ _ _) rfl ⟨rfl,?_⟩;rw[i.out];exact TM _ HR.out HW.out.kg HW.out.kK HW.out.base
  ·have ah:bv=1:=E.out.symm;subst ah;clear E;go_region;have e0:=or_bit bs true m i.out;rw[<-HY.out]at e0;have e1:(((if true=true then 1 else 0)*2 ^ (7-m % 8):Nat):Int)=(2:Int) ^ (7-m % 8) % 256:=(by have:2 ^ (7-m % 8)<=2 ^ 7:=Cn nj nj;have h2:(2:Int) ^ (7-m % 8)=((2 ^ (7-m % 8):Nat):Int):=qT;rw[h2];simp only[if_true,Nat.one_mul];generalize 2 ^ (7-m % 8)=z at *;omega);rw[e1]at e0;rw[show bits .or .u8 (y:Int) (2 ^ (7-m % 8) % 256)=_ from e0];clear e1;clear x0 x1 x2 e0;go_wp2_with fail;refine bodyPost_end (BY rfl _ _ _) rfl ⟨rfl,?_⟩;rw[i.out];exact TM _ HR.out HW.out.kg HW.out.kK HW.out.base
end Huff
namespace Huff
open Go.RowKit Mem Canon Own
theorem and_one(y:Nat)(hy:y<18446744073709551616):bits .and .u64 (y:Int) 1=((y % 2:Nat):Int):=kx
theorem put_any(K:Nat->Prop)(w:World)(g base:Nat)(t:TypeId)(rest:List Value)(v:Value)(bs:List Bool)(x n:Nat)(hx:x<2 ^ n)(hn:n<=64)(L:bs.length+n<=6000000)(hW:Wr K w base g t rest bs v):
 Calls prog 175 #[.pointer (some ⟨g,0,none⟩), .int .u64 (x:Nat), .int .i64 (n:Nat)] w fun e w'=>e= .returned (.int .i64 0)/\∃v',Wr K w' base g t rest (bs++msb x n n) v'/\Kept K w w':=by
 have z:x<18446744073709551616:=EE hx (by have:2 ^ n<=2 ^ 64:=Cn nj hn;omega);have HW:=hid hW;have Y:=hid L;have HX:=hid hx
 have hz:((x:Int) / 2 ^ n != 0)=false:=by
  have e:((x:Int) / 2 ^ n)=((x / 2 ^ n:Nat):Int):=qT
  rw[e,Nat.div_eq_of_lt hx];rfl
 have E:Wr K w base g t rest (bs++msb x n (n-n)) v:=by rw[Gf,Zv,BX];exact hW
 have M:=hid E;clear hW L hx E;go_enter func175,ntmps175;go_upto_region 1 with fail;go_cut [27] (fun s wx=>s= .bool false/\w=wx)
 case first=>
  go_wp2_with fail
  all_goals
   go_meet
   case rel=>exact⟨rfl,rfl⟩
 case rest=>
  obtain⟨rfl,rfl⟩:=hcut;clear hz;go_wp2_with fail;go_loopw [7] (fun i wr=>∃ (j:Nat) (v':Value),j<=n/\i= .int .i64 ((j:Int)-1)/\Hid (Wr K wr base g t rest (bs++msb x n (n-j)) v')/\Kept K w wr) (fun i _=>(intOf i+1).toNat)
  case atStart=>exact⟨n,v,nj,jr,M.out,Kept.refl _ _⟩
  case round=>
   obtain⟨j,v',hj,rfl,y,J⟩:=hrel;cases j with
   |zero=>have e:(((0:Nat):Int)-1)= -1:=nj;rw[e];clear e;go_wp2_with fail;go_ret;exact⟨rfl,v',y.out,J⟩
   |succ j=>
    have e:(((j+1:Nat):Int)-1)=(j:Int):=nj;rw[e];clear e;have hd:x / 2 ^ j<18446744073709551616:=Nat.lt_of_le_of_lt (Hw _ _) z;have hz:((x:Int) / 2 ^ j)=((x / 2 ^ j:Nat):Int):=qT;have C:Hid (Calls prog 234 #[.pointer (some ⟨g,0,none⟩), .int .u64 (bits .and .u64 ((x:Int) / 2 ^ j) 1)] wr.drew fun e w'=>e= .returned (.tuple #[])/\∃v',Wr K w' base g t rest (bs++msb x n (n-j)) v'/\Kept K wr.drew w'):=(by have h:=add_any K wr.drew g base t rest v' (bs++msb x n (n-(j+1))) (decide (x / 2 ^ j % 2=1)) (by rw[Ag,rZ];have:=Y.out;omega) y.out.drew;have e:n-j=n-(j+1)+1:=nj;rw[e,Zc,<-AI,show n-1-(n-(j+1))=j by omega,hz,and_one _ hd,<-Xp];exact h);clear hz;go_upto_region 6 with fail;go_region_held3 (fun _=>True) (trivial) ((go_at_call 234;first|((with_reducible refine C.out.mono ?_);rintro e w' ⟨rfl,N⟩)));obtain⟨v2,G,U⟩:=N;have Q:=hid G;clear hd G y C;go_wp2_with fail;go_roundw
    case measure=>go_light;simp[intOf]
    case rel=>go_light;exact⟨j,v2,nj,jr,Q.out,J.drew.trans U⟩
end Huff
namespace Canon
open Huff
def BM(ls:List Nat)(i:Nat):Nat->Nat
 |0=>0
 |c+1=>if ls[i]? =some 0 then BM ls (i+1) c+1 else 0
theorem P3(ls:List Nat):∀ (c i:Nat),BM ls i c<=c
 |0,_=>Ak _
 |c+1,i=>by unfold BM;have:=P3 ls c (i+1);split<;>omega
theorem Nb(ls:List Nat):∀ (c i:Nat),i<=ls.length->i+BM ls i c<=ls.length
 |0,i,h=>by simpa[BM]using h
 |c+1,i,h=>by
  unfold BM;split
  ·rename_i h0;have hl:=(BW.1 h0).1;have:=Nb ls c (i+1) hl;omega
  ·exact h
def Df(ls:List Nat):Nat->Nat->List Bool
 |0,_=> []
 |f+1,i=>
  if i<ls.length then
   if ls.getD i 0=0 then msb 0 4 4++(msb (BM ls i 64-1) 6 6++Df ls f (i+BM ls i 64))
   else msb (ls.getD i 0) 4 4++Df ls f (i+1)
  else []
def Ev(ls:List Nat):List Bool:=Df ls ls.length 0
theorem Ks(ls:List Nat)(f i:Nat)(h:ls.length<=i):Df ls f i= []:=by
 cases f with
 |zero=>rfl
 |succ f=>unfold Df;rw[Aa nj]
theorem Lb(h:ls[i]? =some 0)(c:Nat):BM ls i (c+1)=BM ls (i+1) c+1:=by rw[BM,Ab h]
theorem KQ(ls:List Nat):∀ (f f' i:Nat),ls.length<=i+f->ls.length<=i+f'->Df ls f i=Df ls f' i
 |0,f',i,h,_=>by rw[Ks ls 0 i h,Ks ls f' i h]
 |f+1,0,i,_,h=>by rw[Ks ls 0 i h,Ks ls (f+1) i h]
 |f+1,f'+1,i,h,h'=>by
  unfold Df;by_cases hi:i<ls.length
  ·rw[Ab hi,Ab hi];by_cases h0:ls.getD i 0=0
   ·rw[Ab h0,Ab h0];have hz:ls[i]? =some 0:=(by rw[Am,Aw hi]at h0;rw[Aw hi];exact Az some h0);have j:BM ls i 64=BM ls (i+1) 63+1:=Lb hz 63;rw[KQ ls f f' (i+BM ls i 64) nj nj]
   ·rw[Aa h0,Aa h0,KQ ls f f' (i+1) nj nj]
  ·rw[Aa hi,Aa hi]
theorem wrGo_length(ls:List Nat):∀ (f i:Nat),(Df ls f i).length<=10*f
 |0,_=>Ak _
 |f+1,i=>by
  unfold Df;split
  ·split
   ·rw[Ag,Ag,rZ,rZ];have:=wrGo_length ls f (i+BM ls i 64);omega
   ·rw[Ag,rZ];have:=wrGo_length ls f (i+1);omega
  ·simp
end Canon
namespace Huff
open Go.RowKit Mem Canon Own
theorem Wr.step{K:Nat->Prop}{w':World}{rest:List Value}{bs:List Bool}{v:Value}(h:Wr K w base g t rest bs v)(hb:Below w w w'):Wr K w' base g t rest bs v:=
 ⟨h.blk.step hb,eZ h.own fun x hx=>hb.block x (Aj h.own x hx).2,h.ne,AN h.base hb.size,h.kg,h.kv,fun k hk=>EE (h.kK k hk) hb.size⟩
theorem Wr.putRest{K:Nat->Prop}{rest:List Value}{bs:List Bool}{v:Value}(h:Wr K w base g t rest bs v)(i:Nat)(u:Value):Wr K (w.setCell ⟨g,i+2,none⟩ u) base g t (rest.set i u) bs v:=by have hz:=(BF (B:=0) (p:=⟨g,i+2,none⟩) (u:=u) (CA _) (Ae 0 w)).size;refine⟨?_,eZ h.own fun x hx=>AY w ⟨g,i+2,none⟩ u x (fun e=>h.ne (by rw[hx,e])),h.ne,AN h.base hz,h.kg,h.kv,fun k hk=>EE (h.kK k hk) hz⟩;have:=h.blk.set (i+2) u;rw[Nk]at this;exact this
theorem kM:∀ {c:Nat},r<=c->(∀j,j<r->ls[i+j]? =some 0)->BM ls i c=r+BM ls (i+r) (c-r):=by
 induction r generalizing i with
 |zero=>intro c _ _;simp
 |succ r ih=>
  intro c hc h;obtain⟨c,rfl⟩:∃d,c=d+1:=⟨c-1,nj⟩;have h0:ls[i]? =some 0:=by simpa using h 0 nj
  rw[Lb h0,ih (i:=i+1) (c:=c) nj (fun j hj=>by have:=h (j+1) nj;rwa [show i+(j+1)=i+1+j by omega]at this)];rw[show i+1+r=i+(r+1) by omega,show c+1-(r+1)=c-r by omega];omega
theorem kR(h:r<=64)(hz:∀j,j<r->ls[i+j]? =some 0)(he:r=64∨ls[i+r]? ≠some 0):BM ls i 64=r:=by
 rw[kM h hz];rcases he with rfl|he
 ·simp[BM]
 ·by_cases h2:r=64
  ·subst h2;simp[BM]
  ·obtain⟨c,hc⟩:∃c,64-r=c+1:=⟨63-r,nj⟩;rw[hc,BM,Aa he];omega
set_option maxHeartbeats 1000000 in
theorem kV(K:Nat->Prop)(w:World)(g base:Nat)(t:TypeId)(rest:List Value)(v:Value)(bs:List Bool)(A:Option Addr)(n c:Nat)(ls:List Nat)(hn:ls.length=n)(hN:n<=9223372036854775807)(ak:okB ls=true)(ay:0<n->∀p,A=some p->K p.block)(ha:Row w w A n 1 (jZ .u8 ls))(aw:bs.length+10*n<=5000000)(hW:Wr K w base g t rest bs v):
 Calls prog 276 #[.pointer (some ⟨g,0,none⟩), .slice A n c] w fun e w'=>e= .returned (.int .i64 0)/\∃v',Wr K w' base g t rest (bs++Ev ls) v'/\Kept K w w':=by
 have hE:G5 ls=0:=by unfold G5;rw[Ab ak]
 have C0:=Qw w A n c ls hn hN ha;rw[hE]at C0;have C0:=hid C0;obtain⟨_,au,_⟩:=ok_parts ak;have HN:=hid hn;have bc:=hid au;have af:=hid aw;have HW:=hid hW;have HA:=hid ha;have a4:=hid ay;clear hn ak hE au aw hW ha ay;go_enter func276,ntmps276;go_wp2_with fail;refine C0.out.mono ?_;rintro e w1 ⟨rfl,an⟩;have ar:=hid (HW.out.step an);have av:Hid (Kept K w w1):=Kept.of_below an fun z hz=>HW.out.kK z hz;clear an HW;go_wp2_with fail;go_loopw [6] (fun i wr=>∃ (k:Nat) (v:Value) (b:List Bool),k<=n/\i= .int .i64 k/\Hid (Wr K wr base g t rest b v)/\Hid (b++Df ls n k=bs++Ev ls)/\Hid (b.length<=bs.length+10*k)/\Hid (Kept K w wr)) (fun i _=>n-(intOf i).toNat)
 case atStart=>exact⟨0,v,bs,nj,rfl,ar.out,by show _=_;unfold Ev;rw[HN.out],qG,av.out⟩
 case round=>
  clear ar av;obtain⟨k,v1,b1,hk,rfl,HW,HG,HL,HK⟩:=hrel;have E:=HG.out;have ai:=HL.out;have ab:=af.out;by_cases ax:k<n
  ·obtain⟨ob,az,x,rfl,bi,hx,c0⟩:=CH HA.out HN.out ax;have ah:=hid (a4.out nj _ rfl);simp only at ah;have c1:=(World.cell?_of_block (a:=⟨ob,az+k,none⟩) (HK.out.block ob ah.out)).trans c0;have be:=bc.out x (Be hx);have y0:(0:Int)<=(k:Int):=nj;have y1:(k:Int)<(n:Int):=nj;have ag:ls.getD k 0=x:=(by rw[Am,hx];rfl);have al:Df ls n k=Df ls (n-k-1+1) k:=KQ ls _ _ _ md md;rw[al]at E;unfold Df at E;rw[HN.out,Ab ax,ag]at E;by_cases h0:x=0
   ·subst h0;rw[Ab rfl]at E;have am:=Nb ls 64 k md;have aj:ls[k]? =some 0:=hx;have bd:1<=BM ls k 64:=(by have:=Lb aj 63;show 1<=BM ls k (63+1);omega);have aq:=P3 ls 64 k;rw[HN.out]at am;rw[KQ ls (n-k-1) n (k+BM ls k 64) md md]at E;have M:=hid E;have a3:=hid aj;have HR:=hid (show k+BM ls k 64<=n from am);have k1:decide ((0:Int)<0)=false:=ip;clear E hx c0 ag al am aj bd aq HG ab ai;go_wp2_with fail;go_loopw [7] (fun rv wx=>∃r:Nat,1<=r/\r<=64/\k+r<=n/\rv= .int .i64 r/\Hid (∀j,j<r->ls[k+j]? =some 0)/\wx=wr) (fun rv _=>64-(intOf rv).toNat)
    case atStart=>exact⟨1,nj,nj,nj,rfl,(fun j hj=>by obtain rfl:j=0:=nj;exact a3.out),rfl⟩
    case round=>
     obtain⟨r,bg,a5,bh,rfl,hz,rfl⟩:=hrel;have done:(r=64∨ls[k+r]? ≠some 0)->Hid (BM ls k 64=r):=fun h=>kR a5 hz.out h;have x1:IntKind.i64.wrap ((k:Int)+(r:Int))=(k:Int)+(r:Int):=pY;by_cases hA:r<64
     ·have a1:=ic ((r:Int)<64);have a2:decide (r<64)=true:=(by simpa using hA);by_cases hB:k+r<n
      ·obtain⟨_,_,y,e9,_,hy,d0⟩:=CH HA.out HN.out hB;injection e9 with e9;injection e9 with e8 e7;subst e8 e7;have d1:=(World.cell?_of_block (a:=⟨ob,az+(k+r),none⟩) (HK.out.block ob ah.out)).trans d0;have a9:=ic ((k:Int)+(r:Int)<(n:Int));have a6:decide (k+r<n)=true:=(by simpa using hB);have bk:(0:Int)<=(k:Int)+(r:Int):=nj;have bf:(k:Int)+(r:Int)<(n:Int):=nj;have bj:((k:Int)+(r:Int)).toNat=k+r:=nj;by_cases hC:y=0
       ·subst hC
        have ba:Hid (∀j,j<r+1->ls[k+j]? =some 0):=by
         intro j hj;by_cases e:j=r
         ·subst e;exact hy
         ·exact hz.out j nj
        have hA2:r+1<=64:=hA;have bb:k+(r+1)<=n:=nj;clear hy d0 done;go_wp2_with fail;go_roundw
        case measure=>exact jq
        case rel=>go_light;refine⟨r+1,Nat.le_add_left 1 r,hA2,bb,jr,ba,?_⟩;first|rfl|trivial
       ·have c5:((y:Int)==0)=false:=rg;have HZ:=done (.inr (by rw[hy];simpa using hC));clear hy d0 hC done;obtain⟨q,hq⟩:=ii (r-1);have x2:IntKind.i64.wrap ((r:Int)-1)=(q:Int):=pY;have x3:IntKind.u64.wrap (q:Int)=(q:Int):=pk;have J:=M.out;rw[HZ.out,<-hq,<-AI,<-AI]at J;have aa:=hid J;have e1:=HL.out;have e2:=af.out;have D1:=hid (put_any K wr g base t rest v1 b1 0 4 nj nj nj HW.out);have D2:=hid (fun w2 v2 h=>put_any K w2 g base t rest v2 (b1++msb 0 4 4) q 6 (show q<64 by omega) nj oy h);have Z:Hid ((b1++msb 0 4 4++msb q 6 6).length<=bs.length+10*(k+r)):=qH;clear hq J e1 e2 M;go_wp2_with fail;refine D1.out.mono ?_;rintro e w2 ⟨rfl,v2,G,L⟩;have U:=hid G;have Y:Hid (Kept K w w2):=HK.out.trans L;clear G L D1;go_wp2_with fail;refine(D2.out w2 v2 U.out).mono ?_;rintro e w3 ⟨rfl,v3,N,Q⟩;have ac:=hid N;have ae:Hid (Kept K w w3):=Y.out.trans Q;clear N Q D2;go_wp2_with fail;go_roundw
        case measure=>exact jq
        case rel=>exact jl
      ·have a9:=ig ((k:Int)+(r:Int)<(n:Int));have a6:decide (k+r<n)=false:=(by simpa using hB);have HZ:=done (.inr (by rw[Fk md];simp));clear done;obtain⟨q,hq⟩:=ii (r-1);have x2:IntKind.i64.wrap ((r:Int)-1)=(q:Int):=pY;have x3:IntKind.u64.wrap (q:Int)=(q:Int):=pk;have J:=M.out;rw[HZ.out,<-hq,<-AI,<-AI]at J;have aa:=hid J;have e1:=HL.out;have e2:=af.out;have D1:=hid (put_any K wr g base t rest v1 b1 0 4 nj nj nj HW.out);have D2:=hid (fun w2 v2 h=>put_any K w2 g base t rest v2 (b1++msb 0 4 4) q 6 (show q<64 by omega) nj oy h);have Z:Hid ((b1++msb 0 4 4++msb q 6 6).length<=bs.length+10*(k+r)):=qH;clear hq J e1 e2 M;go_wp2_with fail;refine D1.out.mono ?_;rintro e w2 ⟨rfl,v2,G,L⟩;have U:=hid G;have Y:Hid (Kept K w w2):=HK.out.trans L;clear G L D1;go_wp2_with fail;refine(D2.out w2 v2 U.out).mono ?_;rintro e w3 ⟨rfl,v3,N,Q⟩;have ac:=hid N;have ae:Hid (Kept K w w3):=Y.out.trans Q;clear N Q D2;go_wp2_with fail;go_roundw
       case measure=>exact jq
       case rel=>exact jl
     ·have a1:=ig ((r:Int)<64);have a2:decide (r<64)=false:=(by simpa using hA);have HZ:=done (.inl nj);clear done;obtain⟨q,hq⟩:=ii (r-1);have x2:IntKind.i64.wrap ((r:Int)-1)=(q:Int):=pY;have x3:IntKind.u64.wrap (q:Int)=(q:Int):=pk;have J:=M.out;rw[HZ.out,<-hq,<-AI,<-AI]at J;have aa:=hid J;have e1:=HL.out;have e2:=af.out;have D1:=hid (put_any K wr g base t rest v1 b1 0 4 nj nj nj HW.out);have D2:=hid (fun w2 v2 h=>put_any K w2 g base t rest v2 (b1++msb 0 4 4) q 6 (show q<64 by omega) nj oy h);have Z:Hid ((b1++msb 0 4 4++msb q 6 6).length<=bs.length+10*(k+r)):=qH;clear hq J e1 e2 M;go_wp2_with fail;refine D1.out.mono ?_;rintro e w2 ⟨rfl,v2,G,L⟩;have U:=hid G;have Y:Hid (Kept K w w2):=HK.out.trans L;clear G L D1;go_wp2_with fail;refine(D2.out w2 v2 U.out).mono ?_;rintro e w3 ⟨rfl,v3,N,Q⟩;have ac:=hid N;have ae:Hid (Kept K w w3):=Y.out.trans Q;clear N Q D2;go_wp2_with fail;go_roundw
      case measure=>exact jq
      case rel=>exact jl
   ·have a0:0<x:=nj;rw[Aa h0,KQ ls (n-k-1) n (k+1) md md,<-AI]at E;have D:=hid (put_any K wr g base t rest v1 b1 x 4 nj nj nj HW.out);have k1:decide (0<x)=true:=(by simpa using a0);have k2:decide ((0:Int)<(x:Int))=true:=(by simpa using a0);have s1:IntKind.u64.wrap (x:Int)=(x:Int):=pk;have M:=hid E;have Z:Hid ((b1++msb x 4 4).length<=bs.length+10*(k+1)):=(by show _<=_;rw[Ag,rZ];omega);clear E ai ab hx c0 ag al h0 HG HW HL;go_wp2_with fail;refine D.out.mono ?_;rintro e w2 ⟨rfl,v2,G,L⟩;have U:=hid G;have Y:Hid (Kept K w w2):=HK.out.trans L;clear G L D;go_wp2_with fail;go_roundw
    case measure=>exact jq
    case rel=>go_light;exact⟨k+1,v2,_,nj,jr,U.out,M.out,Z.out,Y.out⟩
  ·obtain rfl:k=n:=by omega
   rw[Ks ls k k md,BX]at E;have M:=hid E;clear E ai ab HG;go_wp2_with fail;go_ret;rw[<-M.out];exact⟨rfl,v1,HW.out,HK.out⟩
end Huff
end Go.Proofs.YtfgdoknipbpfhaaGreatDoor
