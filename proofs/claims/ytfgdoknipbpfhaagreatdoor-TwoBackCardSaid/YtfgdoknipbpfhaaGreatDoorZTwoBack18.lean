/- The walk of package  -/
import Derived.Test.YtfgdoknipbpfhaaGreatDoorZTwoBack17
import Derived.Test.YtfgdoknipbpfhaaGreatDoorZTwoBack3
namespace Go.Proofs.YtfgdoknipbpfhaaGreatDoor
open Go.Proofs.Tryz
open Go.Lib (hid)
set_option maxHeartbeats 4000000
set_option maxRecDepth 100000
variable{w w':World}{L R base c g k m n s t:Nat}{S ks l:List Nat}{i:Int}{A:Option Addr}{lf:Value}{vals:List Value}
open Go.RowKit
theorem QQ(x:Nat)(w:World):Calls prog 362 #[.int .u32 x] w fun e w'=>e= .returned (.bool false)/\w=w':=by go_enter func362,ntmps362;go_wp2_with fail;go_ret;exact⟨rfl,rfl⟩
theorem a1o{p:Prop}(h:p:=by clear e;go_enter func348,ntmps348;go_wp2_with(go_at_call 362;refine(QQ _ _).mono ?_;rintro e w' ⟨rfl,rfl⟩);go_ret;exact⟨rfl,rfl⟩):p:=h
theorem bT(a b:Nat)(w:World):Calls prog 348 #[.int .u32 a, .int .u32 b] w fun e w'=>e= .returned (.int .i64 (FL a b))/\w=w':=by
 rcases Nat.lt_trichotomy a b with h|h|h
 ·have e:FL a b= -1:=by unfold FL;rw[Ab h]
  rw[e];exact a1o
 ·have e:FL a b=0:=by unfold FL;rw[Aa nj,Aa nj]
  rw[e];subst h;exact a1o
 ·have e:FL a b=1:=by unfold FL;rw[Aa nj,Ab h]
  rw[e];have h':¬a<b:=nj
  exact a1o
abbrev kOf(ks:List Nat):Nat->Nat:=fun s=>ks.getD s 0
theorem YP(w:World)(Bo B n c x y:Nat)(A:Option Addr)(ks:List Nat)(hn:ks.length=n)(hx:x<n)(hy:y<n)(hb:w.cell? ⟨Bo,0,none⟩=some (.slice A n c))(ha:Row w B A n 1 (jZ .u32 ks)):
 Calls prog 347 #[x,y, .pointer (some ⟨Bo,0,none⟩)] w fun e w'=>e= .returned (.int .i64 (FL (kOf ks x) (kOf ks y)))/\∃q,w'=w.drewN q:=by
 obtain⟨b,J,v1,rfl,G,j,c1⟩:=CO ha hn hx;obtain⟨b',z,v2,e2,E,i,c2⟩:=CO ha hn hy;injection e2 with e2;injection e2 with e3 e4;subst e3 e4;have k1:kOf ks x=v1:=by simp[kOf,List.getD_eq_getElem?_getD,j]
 have k2:kOf ks y=v2:=by simp[kOf,List.getD_eq_getElem?_getD,i]
 rw[k1,k2];have x1:(0:Int)<=(x:Int):=nj
 have x2:(x:Int)<(n:Int):=nj
 have x3:(0:Int)<=(y:Int):=nj
 have x4:(y:Int)<(n:Int):=nj
 clear k1 k2 j i hn ha;go_enter func347,ntmps347;go_wp2_with fail;go_quiet ((go_at_call 348;exact C9 ((bT _ _ _).mono (fun _ _ h=>⟨h.1,h.2.symm⟩))));go_wp2_with fail;go_ret;exact⟨rfl,_,rfl⟩
theorem kQ:(prog.info? 3).map (fun i=>(i.zero,i.size,i.bytes))=some (some (.int .i64 0),1,8):=my
def Mh(ks:List Nat)(w:World)(e:Ending)(w':World):Prop:=
 ∃A c,e= .returned (.slice A (yZ (kOf ks) ks.length).length c)/\Row w' w' A (yZ (kOf ks) ks.length).length 1 (jZ .i64 (yZ (kOf ks) ks.length))/\Below w w w'
theorem Yu(h:w.ownsRow base 3 1 (.slice (some ⟨g,0,none⟩) n c) n (dZ .i64 l))(hl:l.length=n):Dat w g n (fun i=>l.getD i 0):=by
 rcases h.2 with ⟨hv,_⟩|⟨g',y,cur,hv,_,hh,E,_,z,j⟩
 ·cases hv
 ·injection hv with e1 e2 e3;injection e1 with e1;injection e1 with e1;subst e1;refine⟨cur,hh,nj,fun i hi=> ?_⟩;have h1:(dZ .i64 l)[i]? =some (.int .i64 (l.getD i 0:Nat)):=by rw[dZ,Co,Az nj,Aq,Az nj];rfl
  rw[<-j,GD]at h1;split at h1
  ·simpa using h1
  ·cases h1
theorem Yb(l:List Nat):seg (fun i=>l.getD i 0) 0 l.length=l:=by refine List.ext_getElem (by rw[seg_length];rfl) fun i h1 h2=> ?_;rw[Hp,Ca,Aq,Az h2];rfl
theorem oG{k f:Nat->Nat}(h:Sor k f 0 n):(seg f 0 n).Pairwise (Lt k):=by rw[List.pairwise_iff_getElem];intro i j hi hj y;rw[seg_length]at hj;rw[Hp,Hp,Ca,Ca];exact h i j (Bf _) y nj
theorem lO{k f:Nat->Nat}(hd:Dat w g n f)(h:Al2 k (fun i=>(Aa1 k m).getD i 0) f 0 n)(hn:(Aa1 k m).length=n):(yZ k m).length=n/\Row w w (some ⟨g,0,none⟩) n 1 (jZ .i64 (yZ k m)):=by
 have e:seg f 0 n=yZ k m:=bW (oG h.1) (by have h2:=h.2;rw[<-hn,Yb,hn]at h2;exact h2);have hl:(yZ k m).length=n:=by rw[<-e,seg_length];rfl
 refine⟨hl,fun _=>⟨g,0,rfl,hd.lt,fun i j hi hj=> ?_⟩⟩;obtain rfl:j=0:=nj
 rw[CZ,Bt,Ca,hd.cell hi];unfold jZ;rw[<-e,Aq,Az rk,Hp,Ca];rfl
theorem W7{k:Nat->Nat}:∀i j,i<j->j<(Aa1 k m).length->(Aa1 k m).getD i 0<(Aa1 k m).getD j 0:=by intro i j y hj;have h:=List.pairwise_iff_getElem.1 (Qx k m) i j nj hj y;rw[Aq,Aq,Az nj,Az hj];exact h
theorem aV{k:Nat->Nat}:All m (Aa1 k m).length (fun i=>(Aa1 k m).getD i 0):=fun i hi=>by show(Aa1 k m).getD i 0<m;rw[Aq,Az hi];exact(OD.1 (FM hi)).1
theorem Ra(w:World)(A:Option Addr)(n c:Nat)(ks:List Nat)(hn:ks.length=n)(hN:n<=100000)(ha:Row w w A n 1 (jZ .u32 ks)):
 Calls prog 314 #[.slice A n c] w (Mh ks w):=by
 obtain⟨j0,aq,am,ak,aj⟩:=info_parts kQ;have HN:=hid hn;have HA:=hid ha;clear hn ha;go_enter func314,ntmps314;go_wp2_with fail;have Y:Blk (w.alloc (.cells #[.slice A n c] 266)) w 266 #[.slice A n c]:=Blk.made _ _ _;have L:Below w w (w.alloc (.cells #[.slice A n c] 266)):=aZ (Ae _ _);go_loopw [3,8] (fun v i wr=>∃ (t q:Nat),t<=n/\q<=t/\i= .int .i64 t/\Hid ((Aa1 (kOf ks) t).length=q)/\wr.ownsRow (w.heap.size+1) 3 1 v q (dZ .i64 (Aa1 (kOf ks) t))/\Blk wr w 266 #[.slice A n c]/\Below w w wr) (fun _ i _=>n-(intOf i).toNat)
 case atStart=>exact⟨0,0,nj,nj,rfl,rfl,AI _ _ _ _,Y,L⟩
 case round=>
  clear Y L;obtain⟨t,q,ht,hq,rfl,E,z,bl,bel⟩:=hrel;have al:=bl.lt;by_cases an:t<n
  ·obtain⟨b,az,x,rfl,ay,hx,c0⟩:=CO (HA.out.below bel) HN.out an;have ab:kOf ks t=x:=(by simp[kOf,List.getD_eq_getElem?_getD,hx]);have aa:Aa1 (kOf ks) (t+1)=if x=0 then Aa1 (kOf ks) t else Aa1 (kOf ks) t++ [t]:=(by rw[Aa1,ab]);have G:=hid aa;have x0:(0:Int)<=(t:Int):=nj;have x1:(t:Int)<(n:Int):=nj;clear hx ab aa;by_cases J:x=0
   ·have HU:Hid (Aa1 (kOf ks) (t+1)=Aa1 (kOf ks) t):=(by show _=_;rw[G.out,Ab J]);subst J;clear G;go_wp2_with fail;go_roundw
    case rel=>go_light;exact⟨t+1,q,nj,nj,jr,by show _=_;rw[HU.out];exact E.out,by rw[HU.out];exact z,bl,bel⟩
    case measure=>exact jq
   ·have HU:Hid (Aa1 (kOf ks) (t+1)=Aa1 (kOf ks) t++ [t]):=(by show _=_;rw[G.out,Aa J]);have xp:0<x:=nj;obtain⟨va,vc,rfl⟩:=bZ z;have HO:=hid z;have BL:=hid bl;have ag:=hid bel;have au:=bel.size;clear G J z bel bl;go_wp2_with(at_builtin;refine iZ rfl (.tmp 15) (.tmp 17) 37 rfl (w.heap.size+1) 3 j0 _ 1 8 underlying37 aq am ak aj rfl ip _ _ _ nm (HO.out.alloc _) _ 1 1 [.int .i64 t] nm (Src.of_blk (Blk.made _ _ _) 1 1 1 rfl) mu sS nj sj ?_;intro v4 w4 N ae av);go_roundw
    case measure=>exact jq
    case rel=>
     go_light;have hr:∀k,(Value.slice va q vc).ownBlock=some k->w.heap.size+1<=k:=fun k hk=>(Aj HO.out k hk).1;refine⟨t+1,q+1,nj,nj,jr,?_,?_,?_,?_⟩
     ·show _=_;rw[HU.out,Ag,E.out];rfl
     ·rw[HU.out,dZ,FA];exact N
     ·exact(BL.out.alloc _).grown ae (fun h=>by have:=hr _ h.symm;omega)
     ·exact(pZ au ag.out).grown ae sj (fun k hk=>by have:=hr k hk;omega)
  ·obtain rfl:t=n:=by omega
   have hz:=bel.size;have Q:=bl.cell 0;rcases z.2 with ⟨rfl,ar⟩|⟨g,U,cur,rfl,hg,hh,a0,aw,ai,M⟩
   ·subst ar;have e0:yZ (kOf ks) t= []:=Gn (by rw[(JY _ _).length_eq];exact E.out);have E0:=hid e0;clear e0 z;go_wp2_with fail;refine(pH _ _).mono ?_;rintro e w5 ⟨rfl,rfl⟩;go_wp2_with fail;go_ret;refine⟨none,0,?_,?_,bel⟩
    ·rw[HN.out,E0.out];rfl
    ·rw[HN.out,E0.out];exact Row.zero
   ·have hd:Dat wr g q (fun i=>(Aa1 (kOf ks) t).getD i 0):=Yu z E.out;have ac:CmpOk w g t wr (kOf ks):=(by intro x y w2 hx hy hk;refine YP w2 w w t c x y A ks HN.out hx hy ((World.cell?_of_block (a:=⟨w,0,none⟩) (hk.block _ ⟨al,rW⟩)).trans Q) ?_;exact(HA.out.below bel).keep fun p hp=>World.cell?_of_block (hk.block _ ⟨nj,nj⟩));have C:=qF wr w g q U t (kOf ks) _ nj (fun i j h1 h2=>W7 i j h1 (by rw[E.out];exact h2)) (by have:=aV (k:=kOf ks) (m:=t);rw[E.out]at this;exact this) hd ac;have ax:=hd.lt;have CC:=hid C;clear C ac hd hh ai M z;go_wp2_with fail;refine CC.out.mono ?_;rintro e w5 ⟨rfl,f',hp,Z⟩;obtain⟨hl,af⟩:=lO hp.1 Z E.out;have HL:=hid hl;have ah:Below w w w5:=bel.trans (hp.2.below (fun b hb=>⟨nj,nj⟩));clear hp Z hl;go_wp2_with fail;go_ret;refine⟨some ⟨g,0,none⟩,U,?_,?_,ah⟩
    ·rw[HN.out,HL.out];rfl
    ·rw[HN.out,HL.out];exact af
def Ae6(ks:List Nat)(L s:Nat):Nat:=
 if(yZ (kOf ks) ks.length).length<2 then if s∈yZ (kOf ks) ks.length then 1 else 0
 else Ck (kOf ks) (yZ (kOf ks) ks.length) (L-1) (2*(yZ (kOf ks) ks.length).length-2) s
theorem XQ(ks:List Nat)(L:Nat):Jj ks L=(List.range ks.length).map (Ae6 ks L):=by
 unfold Jj;show(if(yZ (kOf ks) ks.length).length<2 then _ else _)=_;split
 ·rename_i h;refine J1 fun s _=> ?_;unfold Ae6;rw[Ab h]
 ·rename_i h;refine J1 fun s _=> ?_;unfold Ae6;rw[Aa h]
theorem Ab1(h:EQ ks i=0):
 ks.length<=300/\∃L:Nat,i=L/\1<=L/\L<=15/\(yZ (kOf ks) ks.length).length<=2 ^ L/\Dr ks i=(List.range ks.length).map (Ae6 ks L):=by
 have h0:=h;unfold EQ at h;split at h
 ·cases h
 ·rename_i h1;split at h
  ·cases h
  ·rename_i h2;obtain⟨L,rfl⟩:∃L:Nat,i=L:=⟨i.toNat,nj⟩;refine⟨nj,L,rfl,nj,nj,Nat.le_of_not_lt h2,?_⟩;unfold Dr;rw[Ab h0,BD,XQ]
theorem MS(h:EQ ks i=0):(Dr ks i).length=ks.length:=by obtain⟨_,L,_,_,_,_,e⟩:=Ab1 h;rw[e];simp
theorem Ti(h:s ∉ yZ (kOf ks) ks.length):Ae6 ks L s=0:=by
 unfold Ae6;split
 ·rfl
 ·exact ZW _ _ _ h
theorem SQ{k f:Nat->Nat}(h:∀s,k s=0->f s=0):∀n,((List.range n).map f).sum=sm f (Aa1 k n)
 |0=>rfl
 |n+1=>by
  rw[Ib,FA,Ox,SQ h n,Aa1];split
  ·rename_i h0;simp[h n h0]
  ·rw[Lq];simp[sm]
theorem WY{k f:Nat->Nat}(h:∀s,k s=0->f s=0)(n:Nat):((List.range n).map f).sum=sm f (yZ k n):=by rw[SQ h n,XM (JY k n)]
theorem RU(h:kOf ks s=0):Ae6 ks L s=0:=Ti fun hs=>(J6.1 hs).2 h
theorem Lp(h1:1<=L)(h:(yZ (kOf ks) ks.length).length<=2 ^ L)(hs:s∈yZ (kOf ks) ks.length):1<=Ae6 ks L s/\Ae6 ks L s<=L:=by
 unfold Ae6;split
 ·omega
 ·have h2:=(Al3 (JL (kOf ks) ks.length) nj h1 h).2 s hs;have h3:=Rm (k:=kOf ks) (S:=yZ (kOf ks) ks.length) (L-1) (2*(yZ (kOf ks) ks.length).length-2) s;omega
theorem jU(h1:1<=L)(h:(yZ (kOf ks) ks.length).length<=2 ^ L)(h2:2<=(yZ (kOf ks) ks.length).length):sm (fun s=>2 ^ (L-Ae6 ks L s)) (yZ (kOf ks) ks.length)=2 ^ L:=by have h3:=(Al3 (JL (kOf ks) ks.length) h2 h1 h).1;rw[<-h3];refine I1 fun s _=> ?_;unfold Ae6;rw[Aa nj]
theorem kW(h:EQ ks i=0):Ks (Dr ks i)=if(yZ (kOf ks) ks.length).length=0 then 0 else if(yZ (kOf ks) ks.length).length=1 then 16384 else 32768:=by
 obtain⟨hn,L,rfl,h1,h2,h3,e⟩:=Ab1 h;unfold Ks;rw[e,List.map_map,WY (k:=kOf ks) (fun s hs=>by simp[RU hs])];have e1:sm ((fun x=>if x=0 then 0 else 2 ^ (15-x)) ∘ Ae6 ks L) (yZ (kOf ks) ks.length)=sm (fun s=>2 ^ (15-Ae6 ks L s)) (yZ (kOf ks) ks.length):=I1 fun s hs=>by have:=(Lp h1 h3 hs).1;show(if Ae6 ks L s=0 then 0 else _)=_;rw[Aa nj]
 rw[e1];by_cases q0:(yZ (kOf ks) ks.length).length=0
 ·rw[Ab q0,Gn q0];rfl
 ·rw[Aa q0];by_cases q1:(yZ (kOf ks) ks.length).length=1
  ·rw[Ab q1];have hx:∀s∈yZ (kOf ks) ks.length,2 ^ (15-Ae6 ks L s)=16384:=fun s hs=>by have:Ae6 ks L s=1:=(by unfold Ae6;rw[Ab nj,Ab hs]);rw[this]
   rw[I1 (g:=fun _=>16384) hx,Kx,q1]
  ·rw[Aa q1];have hx:∀s∈yZ (kOf ks) ks.length,2 ^ (15-Ae6 ks L s)=2 ^ (15-L)*2 ^ (L-Ae6 ks L s):=fun s hs=>by have:=(Lp h1 h3 hs).2;rw[<-Nat.pow_add];congr 1;omega
   rw[I1 hx,nH,jU h1 h3 nj,<-Nat.pow_add,show 15-L+L=15 by omega]
theorem jY(h:EQ ks i=0):(Dr ks i).countP (fun x=>decide (x≠0))=(yZ (kOf ks) ks.length).length:=by
 obtain⟨hn,L,rfl,h1,h2,h3,e⟩:=Ab1 h
 have j:∀n,((List.range n).map (Ae6 ks L)).countP (fun x=>decide (x≠0))=((List.range n).map fun s=>if Ae6 ks L s=0 then 0 else 1).sum:=by
  intro n
  induction n with
  |zero=>rfl
  |succ n ih=>rw[Ib,FA,FA,List.countP_append,Ox,ih];by_cases hz:Ae6 ks L n=0<;>simp[hz]
 rw[e,j,WY (k:=kOf ks) (fun s hs=>by rw[Ab (RU hs)])];have hx:∀s∈yZ (kOf ks) ks.length,(if Ae6 ks L s=0 then 0 else 1)=1:=fun s hs=>by have:=(Lp h1 h3 hs).1;rw[Aa nj]
 rw[I1 (g:=fun _=>1) hx,Kx,CZ]
theorem jD{f:Nat->Nat}(h:s<n):((List.range n).map f).getD s 0=f s:=by rw[Aq,Co,List.getElem?_range h];rfl
theorem Xt(hE:EQ ks 15=0)(hn:ks.length<=300):Eh (Dr ks 15)=true:=by
 refine lG (by rw[MS hE];exact hn) fun x hx=> ?_;obtain⟨_,L,hL,h1,h2,h3,e⟩:=Ab1 hE;rw[e]at hx;obtain⟨s,_,rfl⟩:=CH.1 hx;by_cases hm:s∈yZ (kOf ks) ks.length
 ·have:=(Lp h1 h3 hm).2;omega
 ·rw[Ti hm];omega
theorem Q7(hE:EQ ks 15=0)(hn:ks.length<=300):okB (Dr ks 15)=true:=by
 have hg:=Xt hE hn;have hu:=jY hE;have hk:=kW hE;have hc:=dD hg
 have h0:Ho (Dr ks 15)=0:=by
  rw[hc,Ab];by_cases q0:(yZ (kOf ks) ks.length).length=0
  ·left;unfold Aa0;rw[hu,q0]
  ·by_cases q1:(yZ (kOf ks) ks.length).length=1
   ·right;left
    refine⟨by unfold Aa0;rw[hu,q1],?_⟩;have:cnt (Dr ks 15) 1=(Dr ks 15).countP (fun x=>decide (x≠0)):=(by unfold cnt;refine List.countP_congr fun x hx=> ?_;obtain⟨_,L,hL,h1,h2,h3,e⟩:=Ab1 hE;rw[e]at hx;obtain⟨s,_,rfl⟩:=CH.1 hx;have h:Ae6 ks L s<=1:=(by unfold Ae6;rw[Ab nj];split<;>omega);simp;omega);rw[this,hu,q1]
   ·right;right
    rw[hk,Aa q0,Aa q1]
 unfold Ho at h0;split at h0
 ·assumption
 ·cases h0
def itL(X:List It):List Value:=X.flatMap fun x=> [.int .u64 (x.1:Nat), .bool (CL x)]
def itF(X:List It):Nat->Nat->Value:=fun i j=>if j=0 then .int .u64 ((X.getD i (0,[])).1:Nat)else .bool (CL (X.getD i (0,[])))
theorem Nf(a b:List It):itL (a++b)=itL a++itL b:=by simp[itL]
theorem Rv(X:List It):(itL X).length=X.length*2:=by
 induction X with
 |nil=>rfl
 |cons x t ih=>simp only[itL,List.flatMap_cons,List.length_append,List.length_cons,List.length_nil]at ih ⊢;omega
theorem Mk:∀ (X:List It) (i j:Nat),i<X.length->j<2->(itL X)[i*2+j]? =some (itF X i j)
 | [],i,j,h,_=>rY
 |x :: t,0,j,_,hj=>by
  have:j=0∨j=1:=nj
  rcases this with rfl|rfl<;>simp[itL,itF]
 |x :: t,i+1,j,h,hj=>by have:=Mk t i j sH hj;rw[itL,CD,show(i+1)*2+j=(i*2+j)+2 by omega,JC rX];simpa[itF,itL]using this
def Its(X:List It)(t:Nat)(cs:Array Value):Prop:=cs.size=X.length*2/\∀i j,i<t->j<2->cs[i*2+j]? =some (itF X i j)
theorem Its.put{X:List It}{cs:Array Value}(h:Its X t cs)(ht:t<X.length){a b:Value}(ha:a=itF X t 0)(hb:b=itF X t 1):Its X (t+1) ((cs.setIfInBounds (t*2) a).setIfInBounds (t*2+1) b):=by
 refine⟨by simpa using h.1,fun i j hi hj=> ?_⟩;have hs:=h.1;rw[Gp,Gp];by_cases e1:t*2+1=i*2+j
 ·have:i=t:=by omega
  have y:j=1:=nj
  subst this y;rw[Ab rfl,Ab sj,hb]
 ·rw[Aa e1];by_cases e2:t*2=i*2+j
  ·have:i=t:=nj;have y:j=0:=nj;subst this y;rw[Ab nj,Ab nj,ha]
  ·rw[Aa e2];exact h.2 i j nj hj
theorem WK:(prog.info? 404).map (fun i=>(i.zero,i.size,i.bytes))=some (some (.agg #[.int .u64 0,false]),2,16):=my
theorem i9(n:Nat)(hn:n<=100000)(w:World):(Instr.makeSlice 399 (.int .i64 (n:Int)) (.int .i64 (n:Int))).run prog w=
 .ok (.slice (some ⟨w,0,none⟩) n n) (w.alloc (.cells (madeCells #[.int .u64 0,false] (n*2)) 404)):=by
 obtain⟨i0,hi,y,j,i⟩:=info_parts WK;have h:=run_make (P:=prog) w 399 404 i0 (.agg #[.int .u64 0,false]) underlying399 hi y .i64 .i64 (n:Int) (n:Int) nj (Int.le_refl _) ri nj;exact a1j
def OwnIt(w:World)(base:Nat)(v:Value)(X:List It):Prop:=w.ownsRow base 404 2 v X.length (itL X)
theorem OwnIt.row{X:List It}(h:OwnIt w base (.slice A X.length c) X):Row w w A X.length 2 (itF X):=Row.of_own h rfl fun i j hi hj=>Mk X i j hi hj
theorem OwnIt.shape{v:Value}{X:List It}(h:OwnIt w base v X):∃A c,v= .slice A X.length c:=bZ h
def UO(X:List It)(w:World)(e:Ending)(w':World):Prop:=∃v,e= .returned v/\OwnIt w' w v X/\Below w w w'
theorem iL(w:World)(A B:Option Addr)(n c m d:Nat)(ks S:List Nat)(hn:ks.length=n)(hm:S.length=m)(hN:n<=100000)(hM:m<=n)(hS:∀s∈S,s<n)(y:∀x∈ks,x<4294967296)(ha:Row w w A n 1 (jZ .u32 ks))(hb:Row w w B m 1 (jZ .i64 S)):
 Calls prog 315 #[.slice A n c, .slice B m d] w (UO (lv (kOf ks) S) w):=by
 have HN:=hid hn;have HM:=hid hm;have HA:=hid ha;have HB:=hid hb;have HS:=hid hS;have M:=hid y;have aa:=i9 m nj;clear hn hm ha hb hS y;go_enter func315,ntmps315;go_wp2_with fail;have z:Blk (w.alloc (.cells (madeCells #[.int .u64 0,false] (m*2)) 404)) w 404 _:=Blk.made _ _ _;have h:Below w w (w.alloc (.cells (madeCells #[.int .u64 0,false] (m*2)) 404)):=aZ (Ae _ _);have hI:Hid (Its (lv (kOf ks) S) 0 (madeCells #[.int .u64 0,false] (m*2))):=by refine⟨?_,fun i j hi _=>nj⟩;rw[G4,HM.out];simp[madeCells]
 go_loopw [13] (fun i wr=>∃ (t:Nat) (cs:Array Value),t<=m/\i= .int .i64 t/\Hid (Its (lv (kOf ks) S) t cs)/\Blk wr w 404 cs/\Below w w wr) (fun i _=>m-(intOf i).toNat)
 case atStart=>exact⟨0,_,nj,rfl,hI,z,h⟩
 case round=>
  clear z h hI;obtain⟨t,cs,ht,rfl,hI,bl,bel⟩:=hrel;by_cases E:t<m
  ·obtain⟨b,Z,s,rfl,Y,hs,c0⟩:=CO (HB.out.below bel) HM.out E;obtain⟨b',N,x,rfl,Q,hx,c1⟩:=CO (HA.out.below bel) HN.out (HS.out s (Bp hs));have U:=HS.out s (Bp hs);have x0:(0:Int)<=(t:Int):=nj;have x1:(t:Int)<(m:Int):=nj;have x2:(0:Int)<=(s:Int):=nj;have x3:(s:Int)<(n:Int):=nj;have f0:=bl.frozen (t*2);have f1:=bl.frozen (t*2+1);have J:cs.size=m*2:=(by have:=hI.out.1;rwa [G4,HM.out]at this);have d0:=bl.cell (t*2);have d1:=bl.cell (t*2+1);rw[KM nj]at d0 d1;generalize cs[t*2]' nj=o0 at d0;generalize cs[t*2+1]' nj=o1 at d1;have y:=M.out x (Bp hx);have s1:IntKind.u64.wrap (x:Int)=(x:Int):=by rw[Bi];omega
   have G:Its (lv (kOf ks) S) (t+1) ((cs.setIfInBounds (t*2) (.int .u64 (x:Nat))).setIfInBounds (t*2+1) (.bool true)):=by
    have hg:(lv (kOf ks) S).getD t (0,[])=(x,[s]):=(by rw[Aq,lv,Co,hs];simp[kOf,List.getD_eq_getElem?_getD,hx]);refine hI.out.put (by rw[G4,HM.out];exact E) ?_ ?_
    ·unfold itF;rw[Ab rfl,hg]
    ·unfold itF;rw[Aa nj,hg];rfl
   have L:=hid G;clear J G hs hx;go_wp2_with fail;go_roundw
   case rel=>go_light;exact⟨t+1,_,nj,jr,L,(bl.set _ _).set _ _,BS (p:=⟨w.heap.size,t*2+1,none⟩) (Ak _) (BS (p:=⟨w.heap.size,t*2,none⟩) (Ak _) bel)⟩
   case measure=>exact jq
  ·obtain rfl:t=m:=by omega
   go_wp2_with fail;go_ret;refine⟨_,rfl,?_,bel⟩;have e:(lv (kOf ks) S).length=t:=(by rw[G4,HM.out]);refine⟨?_, .inr ⟨w.heap.size,t,cs,by rw[e];rfl,Ak _,bl,by rw[e];exact Ak _,sS,by rw[hI.out.1,e],?_⟩⟩
   ·rw[Rv]
   ·have hs:=hI.out.1;rw[e]at hs;refine List.ext_getElem? fun i=> ?_;rw[GD];by_cases hi:i<(lv (kOf ks) S).length*2
    ·rw[Ab hi];have h1:=hI.out.2 (i / 2) (i % 2) (by rw[e]at hi;omega) nj;have h2:=Mk (lv (kOf ks) S) (i / 2) (i % 2) nj nj;rw[show i / 2*2+i % 2=i by omega]at h1 h2;rw[Array.getElem?_toList,h1,h2]
    ·rw[Aa hi,FN];rw[Rv];omega
theorem L9{B:Nat}{X:List It}(h:Row w B A n 2 (itF X))(hn:X.length=n)(hk:k<n):
 ∃b i x,A=some ⟨b,i,none⟩/\b<B/\X[k]? =some x/\w.cell? ⟨b,i+k*2,none⟩=some (.int .u64 (x.1:Nat))/\w.cell? ⟨b,i+k*2+1,none⟩=some (.bool (CL x)):=by
 obtain⟨b,i,e,hb,hc⟩:=h nj;have hl:k<X.length:=nj
 have h0:=hc k 0 hk nj;have h1:=hc k 1 hk nj;have hg:X.getD k (0,[])=X[k]:=by rw[Aq,Az hl];rfl
 rw[itF,Ab rfl,hg]at h0;rw[itF,Aa nj,hg]at h1;exact⟨b,i,X[k],e,hb,Az hl,h0,h1⟩
def MAt(X Y:List It)(i k:Nat)(done:List It):Prop:=done++mrg (X.drop i) (Ey (Y.drop k))=mrg X (Ey Y)
theorem MAt.len{X Y:List It}{i:Nat}{done:List It}(h:MAt X Y i k done):done.length<=X.length+Y.length:=by have:=Aw List.length h;rw[Ag,Nn,Nn,J7,J7]at this;omega
theorem Ae8{α:Type}{l:List α}{i:Nat}{x:α}(h:l[i]? =some x):l.drop i=x :: l.drop (i+1):=by obtain⟨hi,rfl⟩:=CQ.1 h;exact Dl hi
theorem MAt.leaf{X Y:List It}{i:Nat}{done:List It}{x:It}(h:MAt X Y i k done)(hx:X[i]? =some x)(hc:Y.length<=k+1∨∃y z,Y[k]? =some y/\Y[k+1]? =some z/\x.1<=y.1+z.1):MAt X Y (i+1) k (done++ [x]):=by
 unfold MAt at h ⊢;rw[<-h,Ae8 hx,AE];congr 1;rcases hc with hc|⟨y,z,hy,hz,j⟩
 ·rw[Rt (l:=Y.drop k) nz,Lw,Lw];rfl
 ·rw[Ae8 hy,Ae8 hz,Ls,LM (by exact j)];rfl
theorem MAt.pair{X Y:List It}{i:Nat}{done:List It}{y z:It}(h:MAt X Y i k done)(hy:Y[k]? =some y)(hz:Y[k+1]? =some z)(hc:X.length<=i∨∃x,X[i]? =some x/\¬x.1<=y.1+z.1):MAt X Y i (k+2) (done++ [(y.1+z.1,y.2++z.2)]):=by
 unfold MAt at h ⊢;rw[<-h,Ae8 hy,Ae8 hz,Ls,AE];congr 1;rcases hc with hc|⟨x,hx,j⟩
 ·rw[El hc,Ky,Ky];rfl
 ·rw[Ae8 hx,LJ (by exact j)];rfl
theorem MAt.done{X Y:List It}{i k:Nat}{done:List It}(h:MAt X Y i k done)(hi:X.length<=i)(hk:Y.length<=k+1):done=mrg X (Ey Y):=by unfold MAt at h;rw[El hi,Ky,Rt nz,Cg]at h;exact h
theorem gK{y z:It}(hy:y.2≠ [])(hz:z.2≠ []):CL (y.1+z.1,y.2++z.2)=false:=by have h1:=Gm.2 hy;have h2:=Gm.2 hz;unfold CL;rw[FW,Ag];omega
theorem Af1(w:World)(A B:Option Addr)(n c m d M:Nat)(X Y:List It)(hn:X.length=n)(hm:Y.length=m)(hN:n<=1000)(hM:m<=1000)(hX:∀x∈X,CL x=true)(hY:∀y∈Y,y.2≠ []/\y.1<=M)(bq:2*M<18446744073709551616)(ha:Row w w A n 2 (itF X))(hb:Row w w B m 2 (itF Y)):
 Calls prog 316 #[.slice A n c, .slice B m d] w (UO (mrg X (Ey Y)) w):=by
 have HN:=hid hn;have HM:=hid hm;have HA:=hid ha;have HB:=hid hb;have HX:=hid hX;have HY:=hid hY;obtain⟨j0,av,au,ar,an⟩:=info_parts WK;obtain⟨h2,bf⟩:=ii (m / 2)
 have bd:∀w,(Instr.makeSlice 399 (.int .i64 (0:Int)) (.int .i64 ((n:Int)+(m:Int) / 2))).run prog w=
  .ok (.slice (some ⟨w,0,none⟩) 0 (n+h2)) (w.alloc (.cells (madeCells #[.int .u64 0,false] ((n+h2)*2)) 404)):=by
  intro w;have h:=run_make (P:=prog) w 399 404 j0 (.agg #[.int .u64 0,false]) underlying399 av au .i64 .i64 0 ((n:Int)+(m:Int) / 2) nj nj (by rw[an];omega) nj;rw[show((n:Int)+(m:Int) / 2).toNat=n+h2 by omega]at h;simpa[ar,Value.cells]using h
 have bl:h2<=m:=nj
 clear hn hm ha hb hX hY bf;go_enter func316,ntmps316;go_wp2_with fail;have ak:(w.alloc (.cells (madeCells #[.int .u64 0,false] ((n+h2)*2)) 404)).ownsRow w 404 2 (.slice (some ⟨w,0,none⟩) 0 (n+h2)) 0 (itL []):=World.ownsRow_made w _ _ (Ak _) sS (size_madeCells _ _);have az:Below w w (w.alloc (.cells (madeCells #[.int .u64 0,false] ((n+h2)*2)) 404)):=aZ (Ae _ _);go_loopw [5,6,7] (fun v iv kv wr=>∃ (i k q:Nat) (done:List It),i<=n/\k<=m/\q<=2001/\iv= .int .i64 i/\kv= .int .i64 k/\Hid (done.length=q)/\wr.ownsRow w 404 2 v q (itL done)/\Hid (MAt X Y i k done)/\Below w w wr) (fun _ i k _=>(n-(intOf i).toNat)+(m-(intOf k).toNat))
 case atStart=>exact⟨0,0,0,[],nj,nj,nj,rfl,rfl,rfl,ak,rfl,az⟩
 case round=>
  clear az ak bd;obtain⟨i,k,q,done,hi,hk,hq,rfl,rfl,ai,Q,aj,bel⟩:=hrel;have ax:=bel.size;have bp:q<=n+m:=by have:=aj.out.len;rw[ai.out,HN.out,HM.out]at this;exact this
  obtain⟨va,vc,rfl⟩:=bZ Q;have hr:Hid (∀k,(Value.slice va q vc).ownBlock=some k->w.heap.size<=k):=fun k hk=>(Aj Q k hk).1;have x0:(0:Int)<=(i:Int):=nj
  have z0:(0:Int)<=(k:Int):=nj
  by_cases bm:k+1<m
  ·obtain⟨b,bt,y,rfl,bn,hy,c0,_⟩:=L9 (HB.out.below bel) HM.out (k:=k) nj;obtain⟨b',bi,z,e2,bj,hz,c1,_⟩:=L9 (HB.out.below bel) HM.out (k:=k+1) nj;injection e2 with e2;injection e2 with e3 e4;subst e3 e4;have a6:=HY.out y (Bp hy);have a3:=HY.out z (Bp hz);have aw:=gK a6.1 a3.1;have Z:=aj.out.pair hy hz;have U:=fun x hx a5=>aj.out.leaf (x:=x) hx (.inr ⟨y,z,hy,hz,a5⟩);have ba:=a6.2;have a8:=a3.2;obtain⟨ya,ys⟩:=y;obtain⟨za,zs⟩:=z;simp only at c0 c1 aw Z U ba a8;obtain⟨ww,a7⟩:=ii (ya+za);rw[<-a7]at aw Z U;have aq:=hid Z;have af:=hid U;have bc:=hid aw;have E:Hid ((ya:Int)+(za:Int)=(ww:Int)):=rN;have s3:IntKind.u64.wrap ((ya:Int)+(za:Int))=(ya:Int)+(za:Int):=pm;have s1:IntKind.i64.wrap ((k:Int)+1)=(k:Int)+1:=Ar _ nj;have z1:(k:Int)<(m:Int):=nj;have z2:(0:Int)<=(k:Int)+1:=nj;have z3:(k:Int)+1<(m:Int):=nj;have z5:((k:Int)+1).toNat=k+1:=nj;have am:Hid (((k:Int)+1).toNat=k+1/\IntKind.i64.wrap ((k:Int)+1)=(k:Int)+1/\IntKind.u64.wrap ((ya:Int)+(za:Int))=(ya:Int)+(za:Int)):=⟨z5,s1,s3⟩;have HO:=hid Q;have aa:=hid bel;clear hy hz a6 a3 aw Z U a7 s1 s3 z5 Q bel;by_cases a0:i<n
   ·obtain⟨b2,ah,x,rfl,bb,hx,d0,d1⟩:=L9 (HA.out.below aa.out) HN.out a0;obtain⟨xa,xs⟩:=x;simp only at d0;have x1:(i:Int)<(n:Int):=nj;have a4:=hid hx;obtain⟨lb,ae⟩:=ii (CL (xa,xs));rw[<-ae]at d1;have a1:=hid ae;clear hx ae;by_cases a5:xa<=ww
    ·go_wp2_with fail;obtain⟨z5,s1,s3⟩:=am.out;go_quiet (fail);clear z5 s1 s3;rw[E.out];have G:(wr.drewN nq).ownsRow w 404 2 (.slice va q vc) q (itL done):=eZ HO.out (fun _ _=>rfl);have J:Below w w (wr.drewN nq):=below_drewN aa.out nq;have bg:(wr.drewN nq).cell? ⟨b2,ah+i*2,none⟩=some (.int .u64 (xa:Nat)):=d0;have bk:(wr.drewN nq).cell? ⟨b2,ah+i*2+1,none⟩=some (.bool lb):=d1;have L:w.heap.size<=(wr.drewN nq).heap.size:=ax;generalize wr.drewN nq=wq at *;have ac:=hid G;have N:=hid J;clear G J d0 d1 c0 c1 HO aa;go_wp2_with(at_builtin;refine iZ rfl (.tmp 66) (.tmp 71) 399 rfl w 404 j0 _ 2 16 underlying399 av au ar an rfl ip _ _ _ nm (ac.out.alloc _) _ 1 1 [.int .u64 (xa:Nat), .bool lb] nm (Src.of_blk (Blk.made _ _ _) 1 1 2 rfl) mq sS nj sj ?_;intro v4 w4 j ag al);go_roundw
     case measure=>exact jq
     case rel=>
      go_light;refine⟨i+1,k,q+1,done++ [(xa,xs)],nj,nj,nj,jr,rfl,?_,?_,af.out _ a4.out a5,(pZ L N.out).grown ag sj (fun k hk=>hr.out k hk)⟩
      ·show _=_;rw[Ag,ai.out];rfl
      ·rw[Nf];rw[a1.out]at j;exact j
    ·have bh:ww<xa:=nj;go_wp2_with fail;obtain⟨z5,s1,s3⟩:=am.out;go_quiet (fail);clear z5 s1 s3;rw[E.out];have G:(wr.drewN nq).ownsRow w 404 2 (.slice va q vc) q (itL done):=eZ HO.out (fun _ _=>rfl);have J:Below w w (wr.drewN nq):=below_drewN aa.out nq;have L:w.heap.size<=(wr.drewN nq).heap.size:=ax;have bg:(wr.drewN nq).cell? ⟨b2,ah+i*2,none⟩=some (.int .u64 (xa:Nat)):=d0;clear d0 d1;generalize wr.drewN nq=wq at *;have ac:=hid G;have N:=hid J;clear G J c0 c1 HO aa;go_wp2_with(at_builtin;refine iZ rfl (.tmp 75) (.tmp 78) 399 rfl w 404 j0 _ 2 16 underlying399 av au ar an rfl ip _ _ _ nm (ac.out.alloc _) _ 1 1 [.int .u64 (ww:Nat), .bool false] nm (Src.of_blk (Blk.made _ _ _) 1 1 2 rfl) mq sS nj sj ?_;intro v4 w4 j ag al);go_roundw
     case measure=>exact jq
     case rel=>
      go_light;refine⟨i,k+2,q+1,done++ [(ww,ys++zs)],nj,nj,nj,rfl,jr,?_,?_,aq.out (.inr ⟨_,a4.out,nj⟩),(pZ L N.out).grown ag sj (fun k hk=>hr.out k hk)⟩
      ·show _=_;rw[Ag,ai.out];rfl
      ·rw[Nf];rw[<-bc.out]at j;exact j
   ·go_wp2_with fail;obtain⟨z5,s1,s3⟩:=am.out;go_quiet (fail);clear z5 s1 s3;rw[E.out];have G:(wr.drewN nq).ownsRow w 404 2 (.slice va q vc) q (itL done):=eZ HO.out (fun _ _=>rfl);have J:Below w w (wr.drewN nq):=below_drewN aa.out nq;have L:w.heap.size<=(wr.drewN nq).heap.size:=ax;generalize wr.drewN nq=wq at *;have ac:=hid G;have N:=hid J;clear G J c0 c1 HO aa;go_wp2_with(at_builtin;refine iZ rfl (.tmp 75) (.tmp 78) 399 rfl w 404 j0 _ 2 16 underlying399 av au ar an rfl ip _ _ _ nm (ac.out.alloc _) _ 1 1 [.int .u64 (ww:Nat), .bool false] nm (Src.of_blk (Blk.made _ _ _) 1 1 2 rfl) mq sS nj sj ?_;intro v4 w4 j ag al);go_roundw
    case measure=>exact jq
    case rel=>
     go_light;refine⟨i,k+2,q+1,done++ [(ww,ys++zs)],nj,nj,nj,rfl,jr,?_,?_,aq.out (.inl pz),(pZ L N.out).grown ag sj (fun k hk=>hr.out k hk)⟩
     ·show _=_;rw[Ag,ai.out];rfl
     ·rw[Nf];rw[<-bc.out]at j;exact j
  ·have a9:m<=k+1:=nj;by_cases a0:i<n
   ·obtain⟨b2,ah,x,rfl,bb,hx,d0,d1⟩:=L9 (HA.out.below bel) HN.out a0;obtain⟨xa,xs⟩:=x;simp only at d0;have x1:(i:Int)<(n:Int):=nj;have a4:=hid hx;obtain⟨lb,ae⟩:=ii (CL (xa,xs));rw[<-ae]at d1;have a1:=hid ae;have af:=hid (aj.out.leaf (x:=(xa,xs)) hx (.inl (by rw[HM.out];exact a9)));have ac:=hid Q;have N:=hid bel;have L:=ax;clear hx ae Q bel;go_wp2_with(at_builtin;refine iZ rfl (.tmp 32) (.tmp 37) 399 rfl w 404 j0 _ 2 16 underlying399 av au ar an rfl ip _ _ _ nm (ac.out.alloc _) _ 1 1 [.int .u64 (xa:Nat), .bool lb] nm (Src.of_blk (Blk.made _ _ _) 1 1 2 rfl) mq sS nj sj ?_;intro v4 w4 j ag al);go_roundw
    case measure=>exact jq
    case rel=>
     go_light;refine⟨i+1,k,q+1,done++ [(xa,xs)],nj,nj,nj,jr,rfl,?_,?_,af.out,(pZ L N.out).grown ag sj (fun k hk=>hr.out k hk)⟩
     ·show _=_;rw[Ag,ai.out];rfl
     ·rw[Nf];rw[a1.out]at j;exact j
   ·have ab:=aj.out.done pz (by rw[HM.out];exact a9);have ay:(mrg X (Ey Y)).length=q:=(by rw[<-ab];exact ai.out);have HD:=hid ab;have be:=hid ay;clear ab ay;go_wp2_with fail;go_ret;refine⟨_,rfl,?_,bel⟩;show World.ownsRow _ _ _ _ _ _ _;rw[be.out,<-HD.out];exact Q
def Jq(ks:List Nat)(limit:Int)(w:World)(e:Ending)(w':World):Prop:=
 ∃A c,e= .returned (.tuple #[.slice A (Dr ks limit).length c, .int .i64 (EQ ks limit)])/\Row w' w' A (Dr ks limit).length 1 (jZ .u8 (Dr ks limit))/\Wf A (Dr ks limit).length c/\Below w w w'/\(0<(Dr ks limit).length->∀p,A=some p->w.heap.size<=p.block)
theorem Ou{e:Ending}{x:Int}(hx:x≠0)(h:EQ ks i=x)(he:e= .returned (.tuple #[(),x]))(hb:Below w w w'):Jq ks i w e w':=by
 have h0:Dr ks i= []:=by unfold Dr;rw[Aa (by rw[h];exact hx)]
 refine⟨none,0,?_,?_,?_,hb,fun _ p hp=>by cases hp⟩
 ·rw[he,h0,h];rfl
 ·rw[h0];exact Row.zero
 ·rw[h0];exact Wf.nil
theorem a2o{p:Prop}(h:p:=by go_enter func275,ntmps275;go_wp2_with fail;go_ret2;exact Ou ip hE.out rfl (Ae _ _)):p:=h
theorem rG(w:World)(A:Option Addr)(n c:Nat)(ks:List Nat)(i:Int)(hn:ks.length=n)(hN:n<=9223372036854775807)(j: -9223372036854775808<=i)(y:i<=9223372036854775807)(h:n>300∨i<1∨i>15):
 Calls prog 275 #[.slice A n c,i] w (Jq ks i w):=by
 have hE:Hid (EQ ks i=13):=by show _=_;unfold EQ;rw[hn,Ab h]
 clear hn;by_cases h1:300<n
 ·clear h;exact a2o
 ·have g1:=ig ((300:Int)<n)
  have g2:=ig (300<n)
  by_cases h2:i<1
  ·clear h;have g3:decide (i<1)=true:=sI;exact a2o
  ·have h3:15<i:=nj;have g3:=ig (i<1);have g4:decide (15<i)=true:=(by simpa using h3);clear h;exact a2o
theorem QZ(h:L<=15):wrap64 ((2:Int) ^ L)=((2 ^ L:Nat):Int):=by
 have h1:2 ^ L<=2 ^ 15:=Cm nj h;have e:(2:Int) ^ L=((2 ^ L:Nat):Int):=rX
 rw[e];generalize 2 ^ L=p at *;have h2:p<=32768:=h1;unfold wrap64;omega
theorem gO(w:World)(A:Option Addr)(n c L:Nat)(ks:List Nat)(hn:ks.length=n)(hN:n<=300)(z:1<=L)(j:L<=15)(h:2 ^ L<(yZ (kOf ks) n).length)(ha:Row w w A n 1 (jZ .u32 ks)):
 Calls prog 275 #[.slice A n c,L] w (Jq ks L w):=by
 have hE:Hid (EQ ks L=6):=by show _=_;unfold EQ;rw[Aa nj,Ab];rw[hn];exact h
 have C:=Ra w A n c ks hn nj ha;unfold Mh at C;have HN:=hid hn;rw[hn]at C;have C:=hid C;have g1:=ig ((300:Int)<n)
 have g2:=ig (300<n)
 have g3:=ig ((L:Int)<1)
 have g4:=ig ((15:Int)<L)
 have g5:=ig (L<1)
 have g6:=ig (15<L)
 clear ha hn;have t1:decide (wrap64 ((2:Int) ^ L)<((yZ (kOf ks) n).length:Int))=true:=by rw[QZ j];exact Bd (Int.ofNat_lt.2 h)
 generalize yZ (kOf ks) n=S at *;go_enter func275,ntmps275;go_wp2_with fail;refine C.out.mono ?_;rintro e w1 ⟨A1,c1,rfl,y,i⟩;go_wp2_with fail;go_ret2;exact Ou ip hE.out rfl i
theorem qH:(prog.info? 5).map (fun i=>(i.zero,i.size,i.bytes))=some (some (.int .u8 0),1,1):=my
theorem Af3(n:Nat)(hn:n<=8388608)(w:World):(Instr.makeSlice 28 (.int .i64 (n:Int)) (.int .i64 (n:Int))).run prog w=
 .ok (.slice (some ⟨w,0,none⟩) n n) (w.alloc (.cells (madeCells #[.int .u8 0] n) 5)):=by
 obtain⟨i0,hi,y,j,i⟩:=info_parts qH;have h:=run_make (P:=prog) w 28 5 i0 (.int .u8 0) underlying28 hi y .i64 .i64 (n:Int) (n:Int) nj (Int.le_refl _) ri nj;exact a1j
def U8s(f:Nat->Nat)(n:Nat)(cs:Array Value):Prop:=cs.size=n/\∀i,i<n->cs[i]? =some (.int .u8 (f i:Nat))
theorem U8s.made(n:Nat):U8s (fun _=>0) n (madeCells #[.int .u8 0] n):=nk
theorem U8s.set{f g:Nat->Nat}{cs:Array Value}(h:U8s f n cs){i v:Nat}(hv:g i=v)(ho:∀j,j≠i->g j=f j):U8s g n (cs.setIfInBounds i (.int .u8 (v:Nat))):=by
 refine⟨by simpa using h.1,fun j hj=> ?_⟩;have hs:=h.1;rw[Gp];by_cases e:i=j
 ·subst e;rw[Ab rfl,Ab nj,hv]
 ·rw[Aa e,h.2 j hj,ho j (Ba e)]
theorem U8s.row{f:Nat->Nat}{cs:Array Value}(h:U8s f n cs)(hb:Blk w g 5 cs)(hl:l=(List.range n).map f):Row w w (some ⟨g,0,none⟩) n 1 (jZ .u8 l):=by
 subst hl;refine Row.of_blk hb hb.lt fun i j hi hj=> ?_;obtain rfl:j=0:=nj
 rw[CZ,Bt,h.2 i hi];unfold jZ;rw[Aq,Co,List.getElem?_range hi];rfl
theorem PP{e:Ending}{f:Nat->Nat}{cs:Array Value}(hE:EQ ks i=0)(hl:Jj ks i.toNat=(List.range n).map f)
 (h:U8s f n cs)(hb:Blk w' g 5 cs)(he:e= .returned (.tuple #[.slice (some ⟨g,0,none⟩) n n,ij]))(y:Below w w w')(hg:w.heap.size<=g):Jq ks i w e w':=by
 have h0:Dr ks i=(List.range n).map f:=by unfold Dr;rw[Ab hE,hl]
 have j:(Dr ks i).length=n:=by rw[h0];simp
 refine⟨some ⟨g,0,none⟩,n,?_,?_,?_,y,fun _ p hp=>by cases hp;exact hg⟩
 ·rw[he,hE,j]
 ·rw[j];exact h.row hb h0
 ·rw[j];exact Wf.some (Ak _)
theorem pJ(w:World)(A:Option Addr)(n c L:Nat)(ks:List Nat)(hn:ks.length=n)(hN:n<=300)(J:1<=L)(M:L<=15)(h:(yZ (kOf ks) n).length<2)(ha:Row w w A n 1 (jZ .u32 ks)):
 Calls prog 275 #[.slice A n c,L] w (Jq ks L w):=by
 have N:2<=2 ^ L:=by have:=Cm (n:=2) nj J;simpa using this
 have hE:Hid (EQ ks L=0):=rS
 have C:=Ra w A n c ks hn nj ha;unfold Mh at C;have HN:=hid hn;rw[hn]at C;have C:=hid C;have g1:=ig ((300:Int)<n)
 have g2:=ig (300<n)
 have g3:=ig ((L:Int)<1)
 have g4:=ig ((15:Int)<L)
 have g5:=ig (L<1)
 have g6:=ig (15<L)
 have t1:decide (wrap64 ((2:Int) ^ L)<((yZ (kOf ks) n).length:Int))=false:=by rw[QZ M];exact Be (by rw[Int.ofNat_lt];omega)
 have hV:Hid (Jj ks L=(List.range n).map fun s=>if s∈yZ (kOf ks) n then 1 else 0):=by show _=_;unfold Jj;rw[hn];show(if(yZ (kOf ks) n).length<2 then _ else _)=_;rw[Ab h]
 have HS:Hid (∀s∈yZ (kOf ks) n,s<n):=fun s hs=>(J6.1 hs).1;have Y:=Af3 n nj;clear ha hn;generalize yZ (kOf ks) n=S at *;have h2:S.length=0∨S.length=1:=nj
 rcases h2 with h2|h2
 ·obtain rfl:S= []:=Gn h2;clear h2 h;simp only[List.length_nil]at C;have t2:decide (wrap64 ((2:Int) ^ L)<0)=false:=t1;clear t1;go_enter func275,ntmps275;go_wp2_with fail;refine C.out.mono ?_;rintro e w1 ⟨A1,c1,rfl,z,y⟩;go_wp2_with fail;go_ret2;refine PP hE.out (by rw[BD,hV.out]) (cs:=madeCells #[.int .u8 0] n) ?_ (Blk.made _ _ _) rfl (pZ y.size y) y.size;have:=U8s.made n;simpa using this
 ·obtain⟨s,rfl⟩:∃s,S= [s]:=List.length_eq_one_iff.1 h2;clear h2 h;simp only[List.length_cons,List.length_nil,Nat.zero_add]at C;have t2:decide (wrap64 ((2:Int) ^ L)<1)=false:=t1;clear t1;have hs:=HS.out s rX;go_enter func275,ntmps275;go_wp2_with fail;refine C.out.mono ?_;rintro e w1 ⟨A1,c1,rfl,z,y⟩;obtain⟨b,U,x,rfl,Q,hx,c0⟩:=CO z rX (i:=0) nj;simp at hx;subst hx;have E:=y.size;have bl:=Blk.made w1 5 (madeCells #[.int .u8 0] n);have hU:=U8s.made n;have d0:=bl.cell s;rw[hU.2 s hs]at d0;have f0:=bl.frozen s;have HU:Hid (U8s (fun i=>if i∈ [s]then 1 else 0) n ((madeCells #[.int .u8 0] n).setIfInBounds s (.int .u8 1))):=hU.set (v:=1) rX (fun j hj=>by simp[hj]);have G:=y;clear hU;have x2:(0:Int)<=(s:Int):=by omega
  have x3:(s:Int)<(n:Int):=nj
  rw[Bt]at c0;go_wp2_with fail;go_ret2;exact PP hE.out (by rw[BD,hV.out]) HU.out (Blk.made _ _ _) rfl (pZ E G) E
def RowsAt(w:World)(base:Nat)(k:Nat->Nat)(S:List Nat)(lf v:Value)(vals:List Value):Prop:=
 OwnIt w base lf (lv k S)/\w.ownsRow base 399 1 v vals.length vals/\∀i x,vals[i]? =some x->OwnIt w base x (Ae3 (lv k S) i)
theorem OwnIt.kept{v:Value}{X:List It}(h:OwnIt w base v X)(hk:∀g,v.ownBlock=some g->w'.heap[g]? =w.heap[g]?):OwnIt w' base v X:=eZ h hk
theorem RowsAt.kept{k:Nat->Nat}{v:Value}(h:RowsAt w base k S lf v vals)(hk:∀g,base<=g->g<w.heap.size->w'.heap[g]? =w.heap[g]?):RowsAt w' base k S lf v vals:=by
 obtain⟨h1,h2,h3⟩:=h;refine⟨h1.kept (fun g hg=> ?_),eZ h2 (fun g hg=> ?_),fun i x hx=>(h3 i x hx).kept (fun g hg=> ?_)⟩
 ·have:=Aj h1 g hg;exact hk g this.1 this.2
 ·have:=Aj h2 g hg;exact hk g this.1 this.2
 ·have:=Aj (h3 i x hx) g hg;exact hk g this.1 this.2
theorem RowsAt.push{k:Nat->Nat}{v v' x:Value}(h:RowsAt w base k S lf v vals)(hx:OwnIt w base x (Ae3 (lv k S) vals.length))
 (ho:w'.ownsRow base 399 1 v' (vals.length+1) (vals++ [x]))(hg:w.grownBy w' v.ownBlock):RowsAt w' base k S lf v' (vals++ [x]):=by
 obtain⟨h1,h2,h3⟩:=h
 have keep:∀ (y:Value) (X:List It),OwnIt w base y X->OwnIt w' base y X:=fun y X hy=>hy.kept fun g hgy=>by
  refine hg.block g (Aj hy g hgy).2 ?_;rcases FE hy h2 ip with h0|h0
  ·rw[h0]at hgy;cases hgy
  ·rw[<-hgy];exact h0
 refine⟨keep _ _ h1,by simpa using ho,fun i y hy=> ?_⟩;rw[List.getElem?_append]at hy;split at hy
 ·exact keep y _ (h3 i y hy)
 ·have hi:i-vals.length< [x].length:=(CQ.1 hy).1;have hm:=Bp hy;simp at hm hi;subst hm;have:i=vals.length:=by omega
  rw[this];exact keep y _ hx
theorem RowsAt.at_{k:Nat->Nat}{v:Value}(h:RowsAt w base k S lf v vals){i:Nat}(hi:i<vals.length):
 ∃g y A c,v= .slice (some ⟨g,0,none⟩) vals.length y/\base<=g/\g<w.heap.size/\w.cell? ⟨g,i,none⟩=some (.slice A (Ae3 (lv k S) i).length c)/\OwnIt w base (.slice A (Ae3 (lv k S) i).length c) (Ae3 (lv k S) i):=by
 obtain⟨h1,h2,h3⟩:=h;have hv:vals[i]? =some vals[i]:=Az hi;have ho:=h3 i _ hv;obtain⟨A,c,hs⟩:=ho.shape;rcases h2.2 with ⟨_,h0⟩|⟨g,y,cur,z,hb,hh,G,E,J,j⟩
 ·omega
 ·refine⟨g,y,A,c,z,hb,Blk.lt hh,?_,by rw[hs]at ho;exact ho⟩;have h4:vals[i]? =cur[i]? :=by have h5:(cur.toList.take (vals.length*1))[i]? =vals[i]? :=(by rw[j]);rw[<-h5,GD,Ab nj];simp
  rw[Blk.cell (t:=399) hh,<-h4,hv,hs]
theorem OwnIt.cells{X:List It}(h:OwnIt w base (.slice A X.length c) X)(h0:0<X.length):
 ∃g,A=some ⟨g,0,none⟩/\base<=g/\g<w.heap.size/\X.length<=c/\c<=maxLen/\∀i x,X[i]? =some x->w.cell? ⟨g,i*2,none⟩=some (.int .u64 (x.1:Nat))/\w.cell? ⟨g,i*2+1,none⟩=some (.bool (CL x)):=by
 rcases h.2 with ⟨_,h1⟩|⟨g,J,cur,hv,hb,hh,G,z,L,y⟩
 ·omega
 ·injection hv with e1 e2 e3;subst e1 e3;refine⟨g,rfl,hb,Blk.lt hh,G,z,fun i x hx=> ?_⟩;have hi:i<X.length:=(CQ.1 hx).1;have hg:X.getD i (0,[])=x:=by rw[Aq,hx];rfl
  have E:∀j,j<2->w.cell? ⟨g,i*2+j,none⟩=some (itF X i j):=fun j hj=>by rw[Blk.cell (t:=404) hh,<-Mk X i j hi hj,<-y,GD,Ab nj];simp
  have k0:=E 0 nj;have k1:=E 1 nj;rw[itF,Ab rfl,hg]at k0;rw[itF,Aa nj,hg]at k1;exact⟨k0,k1⟩
def JH(k:Nat->Nat)(S:List Nat):Nat->Nat->Nat->Nat
 |0,_,_=>0
 |R+1,t,s=>Ck k S R t s
def Pd(k:Nat->Nat)(S:List Nat)(R t:Nat):Prop:=R=0∨t<=(Ae3 (lv k S) (R-1)).length
theorem fL{k:Nat->Nat}(R t s:Nat)(ht:t<=(Ae3 (lv k S) R).length):
 JH k S (R+1) t s=(if s∈S.take (nl (Ae3 (lv k S) R) t)then 1 else 0)+JH k S R (2*(t-nl (Ae3 (lv k S) R) t)) s/\Pd k S R (2*(t-nl (Ae3 (lv k S) R) t)):=by
 rcases R with _|R
 ·exact⟨rfl, .inl rfl⟩
 ·obtain⟨n,q,h1,h2,h3,h4,_⟩:=Ae5 R t ht;refine⟨rfl, .inr ?_⟩;rw[h4,Nat.add_sub_cancel];rw[show t-n=q by omega];exact h3
def N5(k:Nat->Nat)(S:List Nat)(L:Nat)(R t:Nat)(f:Nat->Nat):Prop:=∀s,Ck k S (L-1) (2*S.length-2) s=f s+JH k S R t s
def InAt(S:List Nat)(f0 f:Nat->Nat)(m:Nat):Prop:=∀s,f s=f0 s+if s∈S.take m then 1 else 0
theorem InAt.step{f0 f:Nat->Nat}(hS:S.Nodup)(h:InAt S f0 f m)(hs:S[m]? =some s):InAt S f0 (fun j=>if j=s then f s+1 else f j) (m+1)/\f s=f0 s:=by
 have y:m<S.length:=(CQ.1 hs).1;have i:S.take (m+1)=S.take m++ [s]:=by rw[Cw,hs];rfl
 have hn:s ∉ S.take m:=by intro hm;have h2:=hS.sublist (List.take_sublist (m+1) S);rw[i,List.nodup_append]at h2;exact h2.2.2 s hm s rX rfl
 have h1:=h s;rw[Aa hn]at h1;refine⟨fun j=> ?_,nj⟩;show(if j=s then f s+1 else f j)=_;rw[i];by_cases e:j=s
 ·subst e;rw[Ab rfl,Ab rX];omega
 ·rw[Aa e,h j];simp[e]
theorem k8(X:List It)(i:Nat):nl X i<=i:=by unfold nl;have:=List.countP_le_length (p:=CL) (l:=X.take i);rw[AY]at this;omega
theorem Af5{P:Program}{t e:TypeId}(ht:P.underlying t=some (.slice e))(hs:∀w,(sizeOf e).run P w= .ok s w)(A:Option Addr)(len i:Nat)(kh:IntKind)(h:Int)(m:Nat)(hh:h=m)(hm:m<=i)(w:World):
 (Instr.slice t (.slice A len i) none (some (.int kh h)) none).run P w= .ok (.slice (AR A 0 i s) m i) w:=by
 subst hh;have he:P.elem t=e:=sn
 rw[run_slice_h w t A len i rc kh (m:Int) nj nj,he,hs];rfl
theorem fG:(prog.info? 399).map (fun i=>(i.zero,i.size,i.bytes))=some (some (.slice none 0 0),1,24):=my
def lenOf:Value->Nat
 | .slice _ n _=>n
 |_=>0
structure Syms (ks:List Nat) (n:Nat) (S:List Nat):Prop where
 sorted:S.Pairwise (Lt (kOf ks))
 nodup:S.Nodup
 below:∀s∈S,s<n
 small:∀s∈S,kOf ks s<=4294967295
 two:2<=S.length
 few:S.length<=300
 le:S.length<=n
theorem PV(h:Syms ks n S){r:Nat}(hr:r<=14):(∀y∈Ae3 (lv (kOf ks) S) r,y.2≠ []/\y.1<=70368744161280)/\S.length<=(Ae3 (lv (kOf ks) S) r).length/\(Ae3 (lv (kOf ks) S) r).length<=2*S.length:=by
 have h2:=h.two;refine⟨fun y hy=>⟨OM r y hy,?_⟩,?_,?_⟩
 ·have h1:=O3 h.small r y hy;have h3:2 ^ r<=2 ^ 14:=Cm nj hr;have h4:2 ^ r*4294967295<=2 ^ 14*4294967295:=GB _ h3;omega
 ·rcases r with _|r
  ·rw[LU];exact Ak _
  ·rw[PD];omega
 ·have h3:=Pb (k:=kOf ks) (S:=S) nj r;generalize (S.length-1) / 2 ^ r=d at h3;omega
theorem oL(h:Syms ks n S)(hR:R<=14)(ht:t<=(Ae3 (lv (kOf ks) S) R).length):t-nl (Ae3 (lv (kOf ks) S) R) t<=S.length:=by
 rcases R with _|R
 ·rw[LU]at ht;rw[Mv t ht];omega
 ·obtain⟨n',q,h1,h2,h3,h4,_⟩:=Ae5 R t ht;have h5:=(PV h (r:=R) nj).2.2;rw[h4];omega
theorem nP{k:Nat->Nat}{f:Nat->Nat}(h:N5 k S L R t f)(hL:1<=L)(s:Nat):f s<=L:=by have h1:=h s;have h2:=Rm (k:=k) (S:=S) (L-1) (2*S.length-2) s;omega
theorem d5(w:World)(A:Option Addr)(n c L:Nat)(ks:List Nat)(hn:ks.length=n)(hN:n<=300)(bb:1<=L)(cp:L<=15)(h:2<=(yZ (kOf ks) n).length)(hp:(yZ (kOf ks) n).length<=2 ^ L)(bc:∀x∈ks,x<4294967296)(ha:Row w w A n 1 (jZ .u32 ks)):
 Calls prog 275 #[.slice A n c,L] w (Jq ks L w):=by
 have hE:Hid (EQ ks L=0):=rS
 have C:=Ra w A n c ks hn nj ha;unfold Mh at C;have HN:=hid hn;rw[hn]at C;have g1:=ig ((300:Int)<n)
 have g2:=ig (300<n)
 have g3:=ig ((L:Int)<1)
 have g4:=ig ((15:Int)<L)
 have g5:=ig (L<1)
 have g6:=ig (15<L)
 have t1:decide (wrap64 ((2:Int) ^ L)<((yZ (kOf ks) n).length:Int))=false:=by rw[QZ cp];exact Be (by rw[Int.ofNat_lt];omega)
 have hV:Hid (Jj ks L=(List.range n).map (Ck (kOf ks) (yZ (kOf ks) n) (L-1) (2*(yZ (kOf ks) n).length-2))):=by show _=_;unfold Jj;rw[hn];show(if(yZ (kOf ks) n).length<2 then _ else _)=_;rw[Aa nj]
 have HS:Hid (Syms ks n (yZ (kOf ks) n)):=by
  refine⟨JL _ _,dH _ _,fun s hs=>(J6.1 hs).1,fun s hs=> ?_,h,by have:=PT (kOf ks) n;omega,PT (kOf ks) n⟩;have b8:=(J6.1 hs).1;have:kOf ks s=ks[s]' nj:=by simp[kOf,List.getD_eq_getElem?_getD,List.getElem?_eq_getElem (show s<ks.length by omega)]
  rw[this];have:=bc _ (FM (show s<ks.length by omega));omega
 have a8:Hid (2*(yZ (kOf ks) n).length-2<=(Ae3 (lv (kOf ks) (yZ (kOf ks) n)) (L-1)).length):=T5 bb nj hp;have cm:=Af3 n nj;have HA:=hid ha;have cj:=hid bc;obtain⟨j0,cG,cB,cA,cu⟩:=info_parts fG;clear ha hn hp bc;generalize yZ (kOf ks) n=S at *;obtain⟨q,hq⟩:∃q,S.length=q:=⟨_,rfl⟩;have HQ:=hid hq;have di:q<=300:=by have:=HS.out.few;omega
 have cz:q<=n:=by have:=HS.out.le;omega
 rw[hq]at C t1 h;have CC:=hid C;have q1:((q:Int)==1)=false:=sj
 have q2:=ig ((q:Int)<2)
 have q3:=ig (q<2)
 clear hq C;go_enter func275,ntmps275;go_wp2_with fail;refine CC.out.mono ?_;rintro e w1 ⟨A1,c1,rfl,G,bi⟩;have cq:=bi.size;go_wp2_with fail;have a7:Blk (w1.alloc (.cells (madeCells #[.int .u8 0] n) 5)) w1 5 _:=Blk.made _ _ _;have aw:Below w w (w1.alloc (.cells (madeCells #[.int .u8 0] n) 5)):=pZ cq bi;have bf:=G.alloc (Ak _) (.cells (madeCells #[.int .u8 0] n) 5);have cl:=a7.lt;generalize w1.alloc (.cells (madeCells #[.int .u8 0] n) 5)=w2 at *;have bd:=hid bf;have a6:=aw.size;clear G bf bi CC cm t1;refine(iL w2 A A1 n c q c1 ks S HN.out HQ.out nj cz HS.out.below cj.out ((HA.out.below aw).mono a6) (bd.out.mono nj)).mono ?_;rintro e w3 ⟨v3,rfl,J,bk⟩;obtain⟨A3,c3,rfl⟩:=J.shape;have av:(lv (kOf ks) S).length=q:=by rw[G4,HQ.out]
 have al:=bk.size
 have ag:RowsAt (w3.alloc (.cells #[.slice A3 (lv (kOf ks) S).length c3] 399)) w2 (kOf ks) S (.slice A3 (lv (kOf ks) S).length c3) (.slice (some ⟨w3,0,none⟩) 1 1) [.slice A3 (lv (kOf ks) S).length c3]:=by
  have ho:OwnIt (w3.alloc (.cells #[.slice A3 (lv (kOf ks) S).length c3] 399)) w2 (.slice A3 (lv (kOf ks) S).length c3) (lv (kOf ks) S):=
   OwnIt.kept J (fun g hg=>EA w3 _ g (Aj J g hg).2)
  refine⟨ho,⟨rfl, .inr ⟨w3.heap.size,1,#[.slice A3 (lv (kOf ks) S).length c3],rfl,al,heap_alloc_new w3 _,Ak _,sS,rfl,rfl⟩⟩,fun i x hx=> ?_⟩;rcases i with _|i
  ·simp at hx;subst hx;exact ho
  ·simp at hx
 have am:Below w2 w2 (w3.alloc (.cells #[.slice A3 (lv (kOf ks) S).length c3] 399)):=pZ al bk;rw[av]at *;have aj:=hid ag;clear ag av J;go_wp2_with fail;go_loopw [9] (fun v wr=>∃ (r:Nat) (g a9:Nat) (vals:List Value),1<=r/\r<=L/\v= .slice (some ⟨g,0,none⟩) r a9/\Hid (vals.length=r)/\Hid (RowsAt wr w2 (kOf ks) S (.slice A3 q c3) v vals)/\Below w2 w2 wr) (fun v _=>L-(lenOf v))
 case atStart=>exact⟨1,w3.heap.size,1,[.slice A3 q c3],nj,bb,rfl,by show _=_;rfl,aj,am⟩
 case round=>as_aux_lemma=>
  clear am aj bk;obtain⟨r,g,a9,vals,dg,bf,rfl,Y,hR,bel⟩:=hrel;have cd:=bel.size;by_cases ar:r<L
  ·have cT:r-1<vals.length:=(by rw[Y.out];omega);obtain⟨g',a4,Ai,ci,hv,hg,bq,y,E⟩:=hR.out.at_ cT;injection hv with e1 e2 e3;injection e1 with e1;injection e1 with e1;subst e1;have Z:=PV HS.out (r:=r-1) nj;rw[HQ.out]at Z;have bO:Ae3 (lv (kOf ks) S) vals.length=mrg (lv (kOf ks) S) (Ey (Ae3 (lv (kOf ks) S) (r-1))):=(by rw[Y.out];obtain⟨r',rfl⟩:∃r',r=r'+1:=⟨r-1,nj⟩;rfl);have af:=hR.out.1;have az:(lv (kOf ks) S).length=q:=(by rw[G4,HQ.out]);have ab:Row wr wr A3 q 2 (itF (lv (kOf ks) S)):=(by have h1:=af;rw[<-az]at h1;have h2:=h1.row;rw[az]at h2;exact h2);have U:=E.row;obtain⟨m,hm⟩:=ii ((Ae3 (lv (kOf ks) S) (r-1)).length);rw[<-hm]at y E U Z;have CN:=hid (Af1 wr A3 Ai q c3 m ci 70368744161280 (lv (kOf ks) S) (Ae3 (lv (kOf ks) S) (r-1)) az hm.symm nj nj My Z.1 nj ab U);have bC:=hid bO;have x0:(0:Int)<=(r:Int)-1:=nj;have x1:(r:Int)-1<(r:Int):=nj;have x2:((r:Int)-1).toNat=r-1:=nj;have x3:IntKind.i64.wrap ((r:Int)-1)=(r:Int)-1:=Ar _ nj;clear hm Z bO af ab U E az e2 e3;clear x2 x3;go_wp2_with fail;refine CN.out.mono ?_;rintro e w5 ⟨v5,rfl,M,ax⟩;obtain⟨A5,c5,rfl⟩:=M.shape;have c8:=ax.size;rw[<-bC.out]at M;obtain⟨m5,bm⟩:=ii ((Ae3 (lv (kOf ks) S) vals.length).length);have b7:=hR.out.kept (w':=w5) (fun g _ ar=>ax.block g ar);have bh:RowsAt (w5.alloc (.cells #[.slice A5 m5 c5] 399)) w2 (kOf ks) S (.slice A3 q c3) (.slice (some ⟨g,0,none⟩) r a9) vals:=b7.kept (fun g _ ar=>EA w5 _ g ar);have z:OwnIt w5 w2 (.slice A5 (Ae3 (lv (kOf ks) S) vals.length).length c5) (Ae3 (lv (kOf ks) S) vals.length):=kZ M cd;rw[<-bm]at z;have bn:OwnIt (w5.alloc (.cells #[.slice A5 m5 c5] 399)) w2 (.slice A5 m5 c5) (Ae3 (lv (kOf ks) S) vals.length):=z.kept (fun g hg=>EA w5 _ g (Aj z g hg).2);have G:=bh.2.1;rw[Y.out]at G;have au:Below w2 w2 (w5.alloc (.cells #[.slice A5 m5 c5] 399)):=pZ nj (xZ ax cd bel);have e5:(mrg (lv (kOf ks) S) (Ey (Ae3 (lv (kOf ks) S) (r-1)))).length=m5:=(by rw[bm,bC.out]);rw[e5];have cr:=hid bh;have cv:=hid bn;have a5:=hid G;have ce:=hid au;clear e5 bm M z b7 bh bn G au y CN ax;go_wp2_with(at_builtin;refine iZ rfl (.tmp 57) (.tmp 66) 401 rfl w2 399 j0 _ 1 24 underlying401 cG cB cA cu rfl ip _ _ _ nm a5.out _ 1 1 [.slice A5 m5 c5] nm (Src.of_blk (Blk.made _ _ _) 1 1 1 rfl) mu sS nj sj ?_;intro v6 w6 aa b1 c4);go_roundw
   case rel=>go_light;obtain⟨g6,a1,be⟩:=Jm aa;subst be;have bg:=cr.out.push cv.out (by rw[Y.out];exact aa) b1;refine⟨r+1,g6,a1,vals++ [.slice A5 m5 c5],nj,nj,rfl,?_,hid bg,ce.out.grown b1 sj (fun k hk=>(Aj a5.out k hk).1)⟩;show _=_;rw[Ag,Y.out];rfl
   case measure=>go_light;obtain⟨g6,a1,be⟩:=Jm aa;subst be;simp[lenOf];omega
  ·obtain rfl:L=r:=by omega
   have ay:Blk wr w1 5 (madeCells #[.int .u8 0] n):=a7.below bel cl;have ah:Row wr w1 A1 q 1 (jZ .i64 S):=bd.out.below (bel.mono nj);have cc:Below w w wr:=aw.trans (bel.mono a6);obtain⟨w6,rfl⟩:=ii wr;have ba:=hid ah;have cx:=hid cc;have bx:Hid (N5 (kOf ks) S L L (2*q-2) (fun _=>0)):=(by intro s;obtain⟨L',rfl⟩:∃L',L=L'+1:=⟨L-1,nj⟩;rw[HQ.out,JH,Nat.add_sub_cancel];show _=0+_;omega);have b5:Hid (Pd (kOf ks) S L (2*q-2)):=(by have:=a8.out;rw[HQ.out]at this;exact .inr this);have bN:Hid (U8s (fun _=>0) n (madeCells #[.int .u8 0] n)):=U8s.made n;have ca:∃R',L=R'+1/\Value.int .i64 ((L:Int)-1)= .int .i64 (R':Nat):=⟨L-1,nj,Aw (Value.int .i64) nj⟩;have cg:g<w6.heap.size/\w2.heap.size<=g:=(by obtain⟨g',a4,Ai,ci,hv,hg,bq,_⟩:=hR.out.at_ (i:=0) (by rw[Y.out];omega);injection hv with e1;injection e1 with e1;injection e1 with e1;omega);have bq:=ay.lt;have cP:=hid ca;clear ah cc bd a7 aw al ca;go_wp2_with fail;go_loopw [10,11] (fun tv rv wr=>∃ (R t:Nat) (f:Nat->Nat) (cs:Array Value),R<=L/\t<=2*q/\tv= .int .i64 t/\((R=0/\rv= .int .i64 (-1))∨(∃R',R=R'+1/\rv= .int .i64 (R':Nat)))/\Hid (Pd (kOf ks) S R t)/\Hid (N5 (kOf ks) S L R t f)/\Hid (U8s f n cs)/\Blk wr w1 5 cs/\Hid (Kept (fun b=>b<w6.heap.size/\b≠w1.heap.size) w6 wr)) (fun _ rv _=>(intOf rv+1).toNat)
   case atStart=>exact⟨L,2*q-2,_,_,Ak _,nj,Aw (Value.int .i64) nj, .inr cP.out,b5,bx,bN,ay,Kept.refl _ _⟩
   case round=>as_aux_lemma=>
    clear b5 bx bN ay;obtain⟨R,t,f,cs,dh,ht,rfl,cL,hT,hC,hU,bl,hK⟩:=hrel;have df:=hK.out.size;rcases cL with ⟨rfl,rfl⟩|⟨R',rfl,rfl⟩
    ·go_wp2_with fail;go_ret2;refine PP hE.out (f:=f) ?_ hU.out bl rfl (cx.out.trans (hK.out.below (fun b hb=>⟨nj,nj⟩))) nj;rw[BD,hV.out];refine J1 fun s _=> ?_;have:=hC.out s;rw[JH]at this;omega
    ·obtain⟨g',a4,Ai,ci,hv,de,cX,y,E⟩:=hR.out.at_ (i:=R') (by rw[Y.out];omega);injection hv with e1 e2 e3;injection e1 with e1;injection e1 with e1;subst e1;have Z:=(PV HS.out (r:=R') nj).2;rw[HQ.out]at Z;obtain⟨gx,rfl,dd,a3,cH,da,ac⟩:=E.cells (by omega)
     have bj:t<=(Ae3 (lv (kOf ks) S) R').length:=by
      rcases hT.out with h0|h0
      ·omega
      ·rwa [Nat.add_sub_cancel]at h0
     have ak:=fun s=>fL (k:=kOf ks) (S:=S) R' t s bj;have aq:=hid ak;have a0:=hid ac;have bu:=(OX (k:=kOf ks) (S:=S) R' t bj).1;obtain⟨m,hm⟩:=ii ((Ae3 (lv (kOf ks) S) R').length);rw[<-hm]at y Z cH bj;have HM:=hid hm.symm;have d0:wr.cell? ⟨g,R',none⟩=some (.slice (some ⟨gx,0,none⟩) m ci):=(World.cell?_of_block (a:=⟨g,R',none⟩) (hK.out.block g ⟨cg.1,nj⟩)).trans y
     have p1:∀w,(Instr.slice 399 (.slice (some ⟨gx,0,none⟩) m ci) none (some (.int .i64 (t:Int))) none).run prog w= .ok (.slice (some ⟨gx,0,none⟩) t ci) w:=by
      intro w;rw[Af5 (P:=prog) underlying399 Tryz.sizeOf404 _ m ci .i64 (t:Int) t rfl nj w];unfold AR;split
      ·rfl
      ·simp[Gj]
     have b0:Hid (InAt S f f (nl (Ae3 (lv (kOf ks) S) R') 0)):=(by intro s;rw[RY];simp);have x0:(0:Int)<=(R':Int):=nj;have x1:(R':Int)<(L:Int):=nj;clear hm ak ac E y e2 e3 hT;obtain⟨wp,rfl⟩:=ii wr;go_wp2_with fail;go_loopw [12,86] (fun nv iv wr=>∃ (i:Nat) (f':Nat->Nat) (ae:Array Value),i<=t/\nv= .int .i64 (nl (Ae3 (lv (kOf ks) S) R') i:Nat)/\iv= .int .i64 i/\Hid (InAt S f f' (nl (Ae3 (lv (kOf ks) S) R') i))/\Hid (U8s f' n ae)/\Blk wr w1 5 ae/\Hid (Kept (fun b=>b<w6.heap.size/\b≠w1.heap.size) w6 wr)) (fun _ i _=>t-(intOf i).toNat)
     case atStart=>exact⟨0,f,cs,nj,by rw[RY];rfl,rfl,b0,hU,bl,hK⟩
     case round=>as_aux_lemma=>
      clear bl hU hK b0 d0 p1;obtain⟨i,f',ae,hi,rfl,rfl,hI,hU,bl,hK⟩:=hrel;have c7:=hK.out.size;by_cases ar:i<t
      ·obtain⟨x,hx⟩:∃x,(Ae3 (lv (kOf ks) S) R')[i]? =some x:=⟨_,Az (by rw[HM.out];omega)⟩;obtain⟨e0,e1⟩:=a0.out i x hx;have c0:wr.cell? ⟨gx,i*2,none⟩=_:=(World.cell?_of_block (a:=⟨gx,i*2,none⟩) (hK.out.block gx ⟨a3,nj⟩)).trans e0;have c1:wr.cell? ⟨gx,i*2+1,none⟩=_:=(World.cell?_of_block (a:=⟨gx,i*2+1,none⟩) (hK.out.block gx ⟨a3,nj⟩)).trans e1;have Q:=X8 _ i x hx;have co:=(OX (k:=kOf ks) (S:=S) R' (i+1) (by rw[HM.out];omega)).1;rw[HQ.out]at co;generalize Ae3 (lv (kOf ks) S) R'=X at *;obtain⟨xa,xs⟩:=x;obtain⟨lb,bp⟩:=ii (CL (xa,xs));rw[<-bp]at c1 Q;simp only at c0;obtain⟨N,b3⟩:=ii (nl X i);rw[<-b3]at hI Q ⊢;have x2:(0:Int)<=(i:Int):=nj;have x3:(i:Int)<(t:Int):=nj;have dj:gx<wr.heap.size:=nj;clear hx e0 e1 b3 bp;cases lb
       ·rw[Aa rX,Bt]at Q;have ai:=hid Q;clear Q;go_wp2_with fail;go_roundw
        case rel=>go_light;exact⟨i+1,f',ae,nj,by rw[ai.out];rfl,jr,by rw[ai.out];exact hI,hU,bl.alloc _,hK.out.alloc (fun b hb=>by have:=hb.1;omega) _⟩
        case measure=>exact jq
       ·rw[Ab rfl]at Q;have cy:N<q:=nj;obtain⟨b,b4,s,rfl,dc,hs,d0⟩:=CO ba.out HQ.out cy;have d1:wr.cell? ⟨b,b4+N,none⟩=_:=(World.cell?_of_block (a:=⟨b,b4+N,none⟩) (hK.out.block b ⟨nj,nj⟩)).trans d0;have b8:=HS.out.below s (Bp hs);have ay:=bl.lt;have c2:=bl.cell s;rw[hU.out.2 s b8]at c2;have f2:=bl.frozen s;obtain⟨b9,cM⟩:=hI.out.step HS.out.nodup hs;have cF:=nP hC.out bb s;have bS:=hU.out.set (g:=fun j=>if j=s then f' s+1 else f' j) (i:=s) (v:=f' s+1) rX (fun j hj=>by simp[hj]);have cS:f' s<=15:=nj;have ai:=hid Q;have aq:=hid b9;have ct:=hid bS;obtain⟨fs,an⟩:=ii (f' s);rw[<-an]at c2 cS;have cf:=hid an;have s1:IntKind.u8.wrap ((fs:Int)+1)=(fs:Int)+1:=(by rw[IntKind.wrap_u8];omega);have y0:(0:Int)<=(N:Int):=nj;have y1:(N:Int)<(q:Int):=nj;have y2:(0:Int)<=(s:Int):=nj;have y3:(s:Int)<(n:Int):=nj;have c9:b<wr.heap.size:=nj;clear Q b9 bS cM cF an hs d0;go_wp2_with fail;go_roundw
        case rel=>
         go_light;refine⟨i+1,_,ae.setIfInBounds s (.int .u8 ((f' s+1:Nat):Int)),nj,by rw[ai.out];go_num,jr,by rw[ai.out];exact aq,ct,?_,?_⟩
         ·rw[<-cf.out];exact(bl.set s _).alloc _
         ·exact(hK.out.set (p:=⟨w1.heap.size,s,none⟩) (fun hb=>hb.2 rfl) _).alloc (fun b hb=>by have:=hb.1;simp;omega) _
        case measure=>exact jq
      ·obtain rfl:i=t:=by omega
       have hE2:Hid (∀s,f s+JH (kOf ks) S (R'+1) i s=f' s+JH (kOf ks) S R' (2*(i-nl (Ae3 (lv (kOf ks) S) R') i)) s):=(by intro s;have h1:=(aq.out s).1;have h2:=hI.out s;omega);have bt:=(aq.out 0).2;have c6:=k8 (Ae3 (lv (kOf ks) S) R') i;have cw:=oL HS.out (R:=R') (t:=i) nj (by rw[HM.out];omega);rw[HQ.out]at cw;generalize nl (Ae3 (lv (kOf ks) S) R') i=N at *;have cE:=hid bt;have cC:Hid (N5 (kOf ks) S L R' (2*(i-N)) f'):=by intro s;rw[hC.out s,hE2.out s]
       have b6:(R'=0/\Value.int .i64 ((R':Int)-1)= .int .i64 (-1))∨(∃R2,R'=R2+1/\Value.int .i64 ((R':Int)-1)= .int .i64 (R2:Nat)):=by
        rcases R' with _|R2
        ·exact .inl ⟨rfl,rfl⟩
        ·exact .inr ⟨R2,rfl,Aw (Value.int .i64) nj⟩
       have cO:=hid b6;clear bt b6 hC hI aq hE2;go_wp2_with fail;go_roundw
       case rel=>go_light;exact⟨R',2*(i-N),f',ae,nj,nj,Aw (Value.int .i64) nj,cO.out,cE,cC,hU,bl,hK⟩
       case measure=>go_light;simp[intOf]
theorem mV(w:World)(A:Option Addr)(n c:Nat)(ks:List Nat)(i:Int)(hn:ks.length=n)(hN:n<=9223372036854775807)(z: -9223372036854775808<=i)(j:i<=9223372036854775807)(y:∀x∈ks,x<4294967296)(ha:Row w w A n 1 (jZ .u32 ks)):
 Calls prog 275 #[.slice A n c,i] w (Jq ks i w):=by
 by_cases h:n>300∨i<1∨i>15
 ·exact rG w A n c ks i hn hN z j h
 ·obtain⟨L,rfl⟩:∃L:Nat,i=L:=⟨i.toNat,nj⟩;by_cases h1:2 ^ L<(yZ (kOf ks) n).length
  ·exact gO w A n c L ks hn nj nj nj h1 ha
  ·by_cases h2:(yZ (kOf ks) n).length<2
   ·exact pJ w A n c L ks hn nj nj nj h2 ha
   ·exact d5 w A n c L ks hn nj nj nj nj nj y ha
end Go.Proofs.YtfgdoknipbpfhaaGreatDoor
