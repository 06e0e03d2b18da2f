/- The walk of package  -/
import Derived.Test.YtfgdoknipbpfhaaGreatDoorZBodyBlocks17
import Derived.Test.YtfgdoknipbpfhaaGreatDoorZBodyBlocks3
namespace Go.Proofs.YtfgdoknipbpfhaaGreatDoor
open Go.Proofs.Tryz
open Go.Lib (hid)
set_option maxHeartbeats 4000000
set_option maxRecDepth 100000
variable{w w':World}{L R base c g k m n s t:Nat}{S ks l:List Nat}{i:Int}{A:Option Addr}{lf:Value}{vals:List Value}
namespace Lens
open Go.RowKit Mem Own Srt Canon
theorem PP(x:Nat)(w:World):Calls prog 362 #[.int .u32 x] w fun e w'=>e= .returned (.bool false)/\w=w':=by go_enter func362,ntmps362;go_wp2_with fail;go_ret;exact⟨rfl,rfl⟩
theorem YN(a b:Nat)(w:World):Calls prog 348 #[.int .u32 a, .int .u32 b] w fun e w'=>e= .returned (.int .i64 (ES a b))/\w=w':=by
 rcases Nat.lt_trichotomy a b with h|h|h
 ·have e:ES a b= -1:=by unfold ES;rw[Ab h]
  rw[e];clear e;go_enter func348,ntmps348;go_wp2_with(go_at_call 362;refine(PP _ _).mono ?_;rintro e w' ⟨rfl,rfl⟩);go_ret;exact⟨rfl,rfl⟩
 ·have e:ES a b=0:=by unfold ES;rw[Aa mw,Aa mw]
  rw[e];subst h;clear e;go_enter func348,ntmps348;go_wp2_with(go_at_call 362;refine(PP _ _).mono ?_;rintro e w' ⟨rfl,rfl⟩);go_ret;exact⟨rfl,rfl⟩
 ·have e:ES a b=1:=by unfold ES;rw[Aa mw,Ab h]
  rw[e];have h':¬a<b:=mw
  clear e;go_enter func348,ntmps348;go_wp2_with(go_at_call 362;refine(PP _ _).mono ?_;rintro e w' ⟨rfl,rfl⟩);go_ret;exact⟨rfl,rfl⟩
abbrev kOf(ks:List Nat):Nat->Nat:=fun s=>ks.getD s 0
theorem lS(w:World)(Bo B n c x y:Nat)(A:Option Addr)(ks:List Nat)(hn:ks.length=n)(hx:x<n)(hy:y<n)(hb:w.cell? ⟨Bo,0,none⟩=some (.slice A n c))(ha:Row w B A n 1 (jZ .u32 ks)):
 Calls prog 347 #[x,y, .pointer (some ⟨Bo,0,none⟩)] w fun e w'=>e= .returned (.int .i64 (ES (kOf ks x) (kOf ks y)))/\∃q,w'=w.drewN q:=by
 obtain⟨b,G,v1,rfl,J,i,c1⟩:=Cx ha hn hx;obtain⟨b',z,v2,e2,E,j,c2⟩:=Cx ha hn hy;injection e2 with e2;injection e2 with e3 e4;subst e3 e4;have k1:kOf ks x=v1:=by simp[kOf,List.getD_eq_getElem?_getD,i]
 have k2:kOf ks y=v2:=by simp[kOf,List.getD_eq_getElem?_getD,j]
 rw[k1,k2];have x1:(0:Int)<=(x:Int):=mw
 have x2:(x:Int)<(n:Int):=mw
 have x3:(0:Int)<=(y:Int):=mw
 have x4:(y:Int)<(n:Int):=mw
 clear k1 k2 i j hn ha;go_enter func347,ntmps347;go_wp2_with fail;go_quiet ((go_at_call 348;exact CG ((YN _ _ _).mono (fun _ _ h=>⟨h.1,h.2.symm⟩))));go_wp2_with fail;go_ret;exact⟨rfl,_,rfl⟩
theorem Wz:(prog.info? 3).map (fun i=>(i.zero,i.size,i.bytes))=some (some (.int .i64 0),1,8):=mr
def MM(ks:List Nat)(w:World)(e:Ending)(w':World):Prop:=
 ∃A c,e= .returned (.slice A (wZ (kOf ks) ks.length).length c)/\Row w' w' A (wZ (kOf ks) ks.length).length 1 (jZ .i64 (wZ (kOf ks) ks.length))/\Below w w w'
theorem k8(h:w.ownsRow base 3 1 (.slice (some ⟨g,0,none⟩) n c) n (cZ .i64 l))(hl:l.length=n):Dat w g n (fun i=>l.getD i 0):=by
 rcases h.2 with ⟨hv,_⟩|⟨g',y,cur,hv,_,hh,z,_,E,j⟩
 ·cases hv
 ·injection hv with e1 e2 e3;injection e1 with e1;injection e1 with e1;subst e1;refine⟨cur,hh,mw,fun i hi=> ?_⟩;have h1:(cZ .i64 l)[i]? =some (.int .i64 (l.getD i 0:Nat)):=by rw[cZ,BG,Az mw,Am,Az mw];rfl
  rw[<-j,Gd]at h1;split at h1
  ·simpa using h1
  ·cases h1
theorem j8(l:List Nat):seg (fun i=>l.getD i 0) 0 l.length=l:=by refine List.ext_getElem (by rw[seg_length];rfl) fun i h1 h2=> ?_;rw[GH,Cb,Am,Az h2];rfl
theorem jY{k f:Nat->Nat}(h:Sor k f 0 n):(seg f 0 n).Pairwise (Lt k):=by rw[List.pairwise_iff_getElem];intro i j hi hj y;rw[seg_length]at hj;rw[GH,GH,Cb,Cb];exact h i j (Cr _) y mw
theorem lH{k f:Nat->Nat}(hd:Dat w g n f)(h:Ok k (fun i=>(used k m).getD i 0) f 0 n)(hn:(used k m).length=n):(wZ k m).length=n/\Row w w (some ⟨g,0,none⟩) n 1 (jZ .i64 (wZ k m)):=by
 have e:seg f 0 n=wZ k m:=jU (jY h.1) (by have h2:=h.2;rw[<-hn,j8,hn]at h2;exact h2);have hl:(wZ k m).length=n:=by rw[<-e,seg_length];rfl
 refine⟨hl,fun _=>⟨g,0,rfl,hd.lt,fun i j hi hj=> ?_⟩⟩;obtain rfl:j=0:=mw
 rw[CM,Bf,Cb,hd.cell hi];unfold jZ;rw[<-e,Am,Az nU,GH,Cb];rfl
theorem VS{k:Nat->Nat}:∀i j,i<j->j<(used k m).length->(used k m).getD i 0<(used k m).getD j 0:=by intro i j y hj;have h:=List.pairwise_iff_getElem.1 (OV k m) i j mw hj y;rw[Am,Am,Az mw,Az hj];exact h
theorem jA{k:Nat->Nat}:All m (used k m).length (fun i=>(used k m).getD i 0):=fun i hi=>by show(used k m).getD i 0<m;rw[Am,Az hi];exact(Nz.1 (Fe hi)).1
theorem Np(w:World)(A:Option Addr)(n c:Nat)(ks:List Nat)(hn:ks.length=n)(hN:n<=100000)(ha:Row w w A n 1 (jZ .u32 ks)):
 Calls prog 314 #[.slice A n c] w (MM ks w):=by
 obtain⟨j0,ag,an,ai,aq⟩:=info_parts Wz;have HN:=hid hn;have HA:=hid ha;clear hn ha;go_enter func314,ntmps314;go_wp2_with fail;have aa:Blk (w.alloc (.cells #[.slice A n c] 266)) w 266 #[.slice A n c]:=Blk.made _ _ _;have L:Below w w (w.alloc (.cells #[.slice A n c] 266)):=aZ (Ag _ _);go_loopw [3,8] (fun v i wr=>∃ (t q:Nat),t<=n/\q<=t/\i= .int .i64 t/\Hid ((used (kOf ks) t).length=q)/\wr.ownsRow (w.heap.size+1) 3 1 v q (cZ .i64 (used (kOf ks) t))/\Blk wr w 266 #[.slice A n c]/\Below w w wr) (fun _ i _=>n-(intOf i).toNat)
 case atStart=>exact⟨0,0,mw,mw,rfl,rfl,AI _ _ _ _,aa,L⟩
 case round=>
  clear aa L;obtain⟨t,q,ht,hq,rfl,E,z,bl,bel⟩:=hrel;have ar:=bl.lt;by_cases am:t<n
  ·obtain⟨b,az,x,rfl,ay,hx,c0⟩:=Cx (HA.out.below bel) HN.out am;have af:kOf ks t=x:=(by simp[kOf,List.getD_eq_getElem?_getD,hx]);have U:used (kOf ks) (t+1)=if x=0 then used (kOf ks) t else used (kOf ks) t++ [t]:=(by rw[used,af]);have G:=hid U;have x0:(0:Int)<=(t:Int):=mw;have x1:(t:Int)<(n:Int):=mw;clear hx af U;by_cases J:x=0
   ·have HU:Hid (used (kOf ks) (t+1)=used (kOf ks) t):=(by show _=_;rw[G.out,Ab J]);subst J;clear G;go_wp2_with fail;go_roundw
    case rel=>go_light;exact⟨t+1,q,mw,mw,jp,by show _=_;rw[HU.out];exact E.out,by rw[HU.out];exact z,bl,bel⟩
    case measure=>exact jo
   ·have HU:Hid (used (kOf ks) (t+1)=used (kOf ks) t++ [t]):=(by show _=_;rw[G.out,Aa J]);have xp:0<x:=mw;obtain⟨va,vc,rfl⟩:=bZ z;have HO:=hid z;have BL:=hid bl;have ah:=hid bel;have al:=bel.size;clear G J z bel bl;go_wp2_with(at_builtin;refine iZ rfl (.tmp 15) (.tmp 17) 37 rfl (w.heap.size+1) 3 j0 _ 1 8 underlying37 ag an ai aq rfl ip _ _ _ mz (HO.out.alloc _) _ 1 1 [.int .i64 t] mz (Src.of_blk (Blk.made _ _ _) 1 1 1 rfl) mp pm mw oT ?_;intro v4 w4 Q ac av);go_roundw
    case measure=>exact jo
    case rel=>
     go_light;have hr:∀k,(Value.slice va q vc).ownBlock=some k->w.heap.size+1<=k:=fun k hk=>(Aj HO.out k hk).1;refine⟨t+1,q+1,mw,mw,jp,?_,?_,?_,?_⟩
     ·show _=_;rw[HU.out,Ae,E.out];rfl
     ·rw[HU.out,cZ,EP];exact Q
     ·exact(BL.out.alloc _).grown ac (fun h=>by have:=hr _ h.symm;omega)
     ·exact(nZ al ah.out).grown ac oT (fun k hk=>by have:=hr k hk;omega)
  ·obtain rfl:t=n:=by omega
   have hz:=bel.size;have M:=bl.cell 0;rcases z.2 with ⟨rfl,au⟩|⟨g,Z,cur,rfl,hg,hh,a0,aw,aj,N⟩
   ·subst au;have e0:wZ (kOf ks) t= []:=Gf (by rw[(IW _ _).length_eq];exact E.out);have E0:=hid e0;clear e0 z;go_wp2_with fail;refine(mI _ _).mono ?_;rintro e w5 ⟨rfl,rfl⟩;go_wp2_with fail;go_ret;refine⟨none,0,?_,?_,bel⟩
    ·rw[HN.out,E0.out];rfl
    ·rw[HN.out,E0.out];exact Row.zero
   ·have hd:Dat wr g q (fun i=>(used (kOf ks) t).getD i 0):=k8 z E.out;have ae:CmpOk w g t wr (kOf ks):=(by intro x y w2 hx hy hk;refine lS w2 w w t c x y A ks HN.out hx hy ((World.cell?_of_block (a:=⟨w,0,none⟩) (hk.block _ ⟨ar,oJ⟩)).trans M) ?_;exact(HA.out.below bel).keep fun p hp=>World.cell?_of_block (hk.block _ ⟨mw,mw⟩));have C:=VO wr w g q Z t (kOf ks) _ mw (fun i j h1 h2=>VS i j h1 (by rw[E.out];exact h2)) (by have:=jA (k:=kOf ks) (m:=t);rw[E.out]at this;exact this) hd ae;have ax:=hd.lt;have CC:=hid C;clear C ae hd hh aj N z;go_wp2_with fail;refine CC.out.mono ?_;rintro e w5 ⟨rfl,f',hp,ab⟩;obtain⟨hl,Y⟩:=lH hp.1 ab E.out;have HL:=hid hl;have ak:Below w w w5:=bel.trans (hp.2.below (fun b hb=>⟨mw,mw⟩));clear hp ab hl;go_wp2_with fail;go_ret;refine⟨some ⟨g,0,none⟩,Z,?_,?_,ak⟩
    ·rw[HN.out,HL.out];rfl
    ·rw[HN.out,HL.out];exact Y
end Lens
namespace Lens
open Srt Canon
def lenS(ks:List Nat)(L s:Nat):Nat:=
 if(wZ (kOf ks) ks.length).length<2 then if s∈wZ (kOf ks) ks.length then 1 else 0
 else BM (kOf ks) (wZ (kOf ks) ks.length) (L-1) (2*(wZ (kOf ks) ks.length).length-2) s
theorem jI(ks:List Nat)(L:Nat):IC ks L=(List.range ks.length).map (lenS ks L):=by
 unfold IC;show(if(wZ (kOf ks) ks.length).length<2 then _ else _)=_;split
 ·rename_i h;refine J4 fun s _=> ?_;unfold lenS;rw[Ab h]
 ·rename_i h;refine J4 fun s _=> ?_;unfold lenS;rw[Aa h]
theorem ok_parts(h:D9 ks i=0):
 ks.length<=300/\∃L:Nat,i=L/\1<=L/\L<=15/\(wZ (kOf ks) ks.length).length<=2 ^ L/\CQ ks i=(List.range ks.length).map (lenS ks L):=by
 have h0:=h;unfold D9 at h;split at h
 ·cases h
 ·rename_i h1;split at h
  ·cases h
  ·rename_i h2;obtain⟨L,rfl⟩:∃L:Nat,i=L:=⟨i.toNat,mw⟩;refine⟨mw,L,rfl,mw,mw,Nat.le_of_not_lt h2,?_⟩;unfold CQ;rw[Ab h0,Br,jI]
theorem Lp(h:D9 ks i=0):(CQ ks i).length=ks.length:=by obtain⟨_,L,_,_,_,_,e⟩:=ok_parts h;rw[e];simp
theorem Ur(h:s ∉ wZ (kOf ks) ks.length):lenS ks L s=0:=by
 unfold lenS;split
 ·rfl
 ·exact Wa _ _ _ h
theorem Ud{k f:Nat->Nat}(h:∀s,k s=0->f s=0):∀n,((List.range n).map f).sum=sm f (used k n)
 |0=>rfl
 |n+1=>by
  rw[GQ,EP,Nm,Ud h n,used];split
  ·rename_i h0;simp[h n h0]
  ·rw[Lf];simp[sm]
theorem Rb{k f:Nat->Nat}(h:∀s,k s=0->f s=0)(n:Nat):((List.range n).map f).sum=sm f (wZ k n):=by rw[Ud h n,V6 (IW k n)]
theorem QA(h:kOf ks s=0):lenS ks L s=0:=Ur fun hs=>(JO.1 hs).2 h
theorem J8(h1:1<=L)(h:(wZ (kOf ks) ks.length).length<=2 ^ L)(hs:s∈wZ (kOf ks) ks.length):1<=lenS ks L s/\lenS ks L s<=L:=by
 unfold lenS;split
 ·omega
 ·have h2:=(full (I3 (kOf ks) ks.length) mw h1 h).2 s hs;have h3:=U1 (k:=kOf ks) (S:=wZ (kOf ks) ks.length) (L-1) (2*(wZ (kOf ks) ks.length).length-2) s;omega
theorem Wg(h1:1<=L)(h:(wZ (kOf ks) ks.length).length<=2 ^ L)(h2:2<=(wZ (kOf ks) ks.length).length):sm (fun s=>2 ^ (L-lenS ks L s)) (wZ (kOf ks) ks.length)=2 ^ L:=by have h3:=(full (I3 (kOf ks) ks.length) h2 h1 h).1;rw[<-h3];refine Ii fun s _=> ?_;unfold lenS;rw[Aa mw]
theorem kL(h:D9 ks i=0):JN (CQ ks i)=if(wZ (kOf ks) ks.length).length=0 then 0 else if(wZ (kOf ks) ks.length).length=1 then 16384 else 32768:=by
 obtain⟨hn,L,rfl,h1,h2,h3,e⟩:=ok_parts h;unfold JN;rw[e,List.map_map,Rb (k:=kOf ks) (fun s hs=>by simp[QA hs])];have e1:sm ((fun x=>if x=0 then 0 else 2 ^ (15-x)) ∘ lenS ks L) (wZ (kOf ks) ks.length)=sm (fun s=>2 ^ (15-lenS ks L s)) (wZ (kOf ks) ks.length):=Ii fun s hs=>by have:=(J8 h1 h3 hs).1;show(if lenS ks L s=0 then 0 else _)=_;rw[Aa mw]
 rw[e1];by_cases q0:(wZ (kOf ks) ks.length).length=0
 ·rw[Ab q0,Gf q0];rfl
 ·rw[Aa q0];by_cases q1:(wZ (kOf ks) ks.length).length=1
  ·rw[Ab q1];have hx:∀s∈wZ (kOf ks) ks.length,2 ^ (15-lenS ks L s)=16384:=fun s hs=>by have:lenS ks L s=1:=(by unfold lenS;rw[Ab mw,Ab hs]);rw[this]
   rw[Ii (g:=fun _=>16384) hx,Jw,q1]
  ·rw[Aa q1];have hx:∀s∈wZ (kOf ks) ks.length,2 ^ (15-lenS ks L s)=2 ^ (15-L)*2 ^ (L-lenS ks L s):=fun s hs=>by have:=(J8 h1 h3 hs).2;rw[<-Nat.pow_add];congr 1;omega
   rw[Ii hx,gV,Wg h1 h3 mw,<-Nat.pow_add,show 15-L+L=15 by omega]
theorem jQ(h:D9 ks i=0):(CQ ks i).countP (fun x=>decide (x≠0))=(wZ (kOf ks) ks.length).length:=by
 obtain⟨hn,L,rfl,h1,h2,h3,e⟩:=ok_parts h
 have j:∀n,((List.range n).map (lenS ks L)).countP (fun x=>decide (x≠0))=((List.range n).map fun s=>if lenS ks L s=0 then 0 else 1).sum:=by
  intro n
  induction n with
  |zero=>rfl
  |succ n ih=>rw[GQ,EP,EP,List.countP_append,Nm,ih];by_cases hz:lenS ks L n=0<;>simp[hz]
 rw[e,j,Rb (k:=kOf ks) (fun s hs=>by rw[Ab (QA hs)])];have hx:∀s∈wZ (kOf ks) ks.length,(if lenS ks L s=0 then 0 else 1)=1:=fun s hs=>by have:=(J8 h1 h3 hs).1;rw[Aa mw]
 rw[Ii (g:=fun _=>1) hx,Jw,CM]
theorem i6{f:Nat->Nat}(h:s<n):((List.range n).map f).getD s 0=f s:=by rw[Am,BG,List.getElem?_range h];rfl
end Lens
namespace Lens
open Srt Canon
theorem iT(hE:D9 ks 15=0)(hn:ks.length<=300):De (CQ ks 15)=true:=by
 refine Z0 (by rw[Lp hE];exact hn) fun x hx=> ?_;obtain⟨_,L,hL,h1,h2,h3,e⟩:=ok_parts hE;rw[e]at hx;obtain⟨s,_,rfl⟩:=Ck.1 hx;by_cases hm:s∈wZ (kOf ks) ks.length
 ·have:=(J8 h1 h3 hm).2;omega
 ·rw[Ur hm];omega
theorem PR(hE:D9 ks 15=0)(hn:ks.length<=300):okB (CQ ks 15)=true:=by
 have hg:=iT hE hn;have hu:=jQ hE;have hk:=kL hE;have hc:=dJ hg
 have h0:GI (CQ ks 15)=0:=by
  rw[hc,Ab];by_cases q0:(wZ (kOf ks) ks.length).length=0
  ·left;unfold Canon.used;rw[hu,q0]
  ·by_cases q1:(wZ (kOf ks) ks.length).length=1
   ·right;left
    refine⟨by unfold Canon.used;rw[hu,q1],?_⟩;have:cnt (CQ ks 15) 1=(CQ ks 15).countP (fun x=>decide (x≠0)):=(by unfold cnt;refine List.countP_congr fun x hx=> ?_;obtain⟨_,L,hL,h1,h2,h3,e⟩:=ok_parts hE;rw[e]at hx;obtain⟨s,_,rfl⟩:=Ck.1 hx;have h:lenS ks L s<=1:=(by unfold lenS;rw[Ab mw];split<;>omega);simp;omega);rw[this,hu,q1]
   ·right;right
    rw[hk,Aa q0,Aa q1]
 unfold GI at h0;split at h0
 ·assumption
 ·cases h0
end Lens
namespace Lens
open Go.RowKit Mem Own Srt Canon
def itL(X:List It):List Value:=X.flatMap fun x=> [.int .u64 (x.1:Nat), .bool (Cp x)]
def itF(X:List It):Nat->Nat->Value:=fun i j=>if j=0 then .int .u64 ((X.getD i (0,[])).1:Nat)else .bool (Cp (X.getD i (0,[])))
theorem zX(a b:List It):itL (a++b)=itL a++itL b:=by simp[itL]
theorem Qy(X:List It):(itL X).length=X.length*2:=by
 induction X with
 |nil=>rfl
 |cons x t ih=>simp only[itL,List.flatMap_cons,List.length_append,List.length_cons,List.length_nil]at ih ⊢;omega
theorem Lq:∀ (X:List It) (i j:Nat),i<X.length->j<2->(itL X)[i*2+j]? =some (itF X i j)
 | [],i,j,h,_=>oL
 |x :: t,0,j,_,hj=>by
  have:j=0∨j=1:=mw
  rcases this with rfl|rfl<;>simp[itL,itF]
 |x :: t,i+1,j,h,hj=>by have:=Lq t i j pf hj;rw[itL,Cm,show(i+1)*2+j=(i*2+j)+2 by omega,IT oK];simpa[itF,itL]using this
def Its(X:List It)(t:Nat)(cs:Array Value):Prop:=cs.size=X.length*2/\∀i j,i<t->j<2->cs[i*2+j]? =some (itF X i j)
theorem Its.put{X:List It}{cs:Array Value}(h:Its X t cs)(ht:t<X.length){a b:Value}(ha:a=itF X t 0)(hb:b=itF X t 1):Its X (t+1) ((cs.setIfInBounds (t*2) a).setIfInBounds (t*2+1) b):=by
 refine⟨by simpa using h.1,fun i j hi hj=> ?_⟩;have hs:=h.1;rw[Fw,Fw];by_cases e1:t*2+1=i*2+j
 ·have:i=t:=by omega
  have y:j=1:=mw
  subst this y;rw[Ab rfl,Ab oT,hb]
 ·rw[Aa e1];by_cases e2:t*2=i*2+j
  ·have:i=t:=mw;have y:j=0:=mw;subst this y;rw[Ab mw,Ab mw,ha]
  ·rw[Aa e2];exact h.2 i j mw hj
theorem QU:(prog.info? 404).map (fun i=>(i.zero,i.size,i.bytes))=some (some (.agg #[.int .u64 0,false]),2,16):=mr
theorem VX(n:Nat)(hn:n<=100000)(w:World):(Instr.makeSlice 399 (.int .i64 (n:Int)) (.int .i64 (n:Int))).run prog w=
 .ok (.slice (some ⟨w,0,none⟩) n n) (w.alloc (.cells (madeCells #[.int .u64 0,false] (n*2)) 404)):=by
 obtain⟨i0,hi,y,j,i⟩:=info_parts QU;have h:=run_make (P:=prog) w 399 404 i0 (.agg #[.int .u64 0,false]) underlying399 hi y .i64 .i64 (n:Int) (n:Int) mw (Int.le_refl _) nS mw;simp only[Int.toNat_natCast]at h;simpa[j,Value.cells]using h
def OwnIt(w:World)(base:Nat)(v:Value)(X:List It):Prop:=w.ownsRow base 404 2 v X.length (itL X)
theorem OwnIt.row{X:List It}(h:OwnIt w base (.slice A X.length c) X):Row w w A X.length 2 (itF X):=Row.of_own h rfl fun i j hi hj=>Lq X i j hi hj
theorem OwnIt.shape{v:Value}{X:List It}(h:OwnIt w base v X):∃A c,v= .slice A X.length c:=bZ h
def P0(X:List It)(w:World)(e:Ending)(w':World):Prop:=∃v,e= .returned v/\OwnIt w' w v X/\Below w w w'
theorem iH(w:World)(A B:Option Addr)(n c m d:Nat)(ks S:List Nat)(hn:ks.length=n)(hm:S.length=m)(hN:n<=100000)(hM:m<=n)(hS:∀s∈S,s<n)(y:∀x∈ks,x<4294967296)(ha:Row w w A n 1 (jZ .u32 ks))(hb:Row w w B m 1 (jZ .i64 S)):
 Calls prog 315 #[.slice A n c, .slice B m d] w (P0 (lv (kOf ks) S) w):=by
 have HN:=hid hn;have HM:=hid hm;have HA:=hid ha;have HB:=hid hb;have HS:=hid hS;have M:=hid y;have Y:=VX m mw;clear hn hm ha hb hS y;go_enter func315,ntmps315;go_wp2_with fail;have E:Blk (w.alloc (.cells (madeCells #[.int .u64 0,false] (m*2)) 404)) w 404 _:=Blk.made _ _ _;have h:Below w w (w.alloc (.cells (madeCells #[.int .u64 0,false] (m*2)) 404)):=aZ (Ag _ _);have hI:Hid (Its (lv (kOf ks) S) 0 (madeCells #[.int .u64 0,false] (m*2))):=by refine⟨?_,fun i j hi _=>mw⟩;rw[Gj,HM.out];simp[madeCells]
 go_loopw [13] (fun i wr=>∃ (t:Nat) (cs:Array Value),t<=m/\i= .int .i64 t/\Hid (Its (lv (kOf ks) S) t cs)/\Blk wr w 404 cs/\Below w w wr) (fun i _=>m-(intOf i).toNat)
 case atStart=>exact⟨0,_,mw,rfl,hI,E,h⟩
 case round=>
  clear E h hI;obtain⟨t,cs,ht,rfl,hI,bl,bel⟩:=hrel;by_cases G:t<m
  ·obtain⟨b,U,s,rfl,Z,hs,c0⟩:=Cx (HB.out.below bel) HM.out G;obtain⟨b',N,x,rfl,Q,hx,c1⟩:=Cx (HA.out.below bel) HN.out (HS.out s (Be hs));have aa:=HS.out s (Be hs);have x0:(0:Int)<=(t:Int):=mw;have x1:(t:Int)<(m:Int):=mw;have x2:(0:Int)<=(s:Int):=mw;have x3:(s:Int)<(n:Int):=mw;have f0:=bl.frozen (t*2);have f1:=bl.frozen (t*2+1);have L:cs.size=m*2:=(by have:=hI.out.1;rwa [Gj,HM.out]at this);have d0:=bl.cell (t*2);have d1:=bl.cell (t*2+1);rw[J7 mw]at d0 d1;generalize cs[t*2]' mw=o0 at d0;generalize cs[t*2+1]' mw=o1 at d1;have y:=M.out x (Be hx);have s1:IntKind.u64.wrap (x:Int)=(x:Int):=by rw[Bq];omega
   have z:Its (lv (kOf ks) S) (t+1) ((cs.setIfInBounds (t*2) (.int .u64 (x:Nat))).setIfInBounds (t*2+1) (.bool true)):=by
    have hg:(lv (kOf ks) S).getD t (0,[])=(x,[s]):=(by rw[Am,lv,BG,hs];simp[kOf,List.getD_eq_getElem?_getD,hx]);refine hI.out.put (by rw[Gj,HM.out];exact G) ?_ ?_
    ·unfold itF;rw[Ab rfl,hg]
    ·unfold itF;rw[Aa mw,hg];rfl
   have J:=hid z;clear L z hs hx;go_wp2_with fail;go_roundw
   case rel=>go_light;exact⟨t+1,_,mw,jp,J,(bl.set _ _).set _ _,BW (p:=⟨w.heap.size,t*2+1,none⟩) (Ak _) (BW (p:=⟨w.heap.size,t*2,none⟩) (Ak _) bel)⟩
   case measure=>exact jo
  ·obtain rfl:t=m:=by omega
   go_wp2_with fail;go_ret;refine⟨_,rfl,?_,bel⟩;have e:(lv (kOf ks) S).length=t:=(by rw[Gj,HM.out]);refine⟨?_, .inr ⟨w.heap.size,t,cs,by rw[e];rfl,Ak _,bl,by rw[e];exact Ak _,pm,by rw[hI.out.1,e],?_⟩⟩
   ·rw[Qy]
   ·have hs:=hI.out.1;rw[e]at hs;refine List.ext_getElem? fun i=> ?_;rw[Gd];by_cases hi:i<(lv (kOf ks) S).length*2
    ·rw[Ab hi];have h1:=hI.out.2 (i / 2) (i % 2) (by rw[e]at hi;omega) mw;have h2:=Lq (lv (kOf ks) S) (i / 2) (i % 2) mw mw;rw[show i / 2*2+i % 2=i by omega]at h1 h2;rw[Array.getElem?_toList,h1,h2]
    ·rw[Aa hi,Ff];rw[Qy];omega
theorem Lv{B:Nat}{X:List It}(h:Row w B A n 2 (itF X))(hn:X.length=n)(hk:k<n):
 ∃b i x,A=some ⟨b,i,none⟩/\b<B/\X[k]? =some x/\w.cell? ⟨b,i+k*2,none⟩=some (.int .u64 (x.1:Nat))/\w.cell? ⟨b,i+k*2+1,none⟩=some (.bool (Cp x)):=by
 obtain⟨b,i,e,hb,hc⟩:=h mw;have hl:k<X.length:=mw
 have h0:=hc k 0 hk mw;have h1:=hc k 1 hk mw;have hg:X.getD k (0,[])=X[k]:=by rw[Am,Az hl];rfl
 rw[itF,Ab rfl,hg]at h0;rw[itF,Aa mw,hg]at h1;exact⟨b,i,X[k],e,hb,Az hl,h0,h1⟩
def MAt(X Y:List It)(i k:Nat)(done:List It):Prop:=done++mrg (X.drop i) (Dy (Y.drop k))=mrg X (Dy Y)
theorem MAt.len{X Y:List It}{i:Nat}{done:List It}(h:MAt X Y i k done):done.length<=X.length+Y.length:=by have:=Aw List.length h;rw[Ae,LK,LK,Jr,Jr]at this;omega
theorem drop_at{α:Type}{l:List α}{i:Nat}{x:α}(h:l[i]? =some x):l.drop i=x :: l.drop (i+1):=by obtain⟨hi,rfl⟩:=Cv.1 h;exact Dj hi
theorem MAt.leaf{X Y:List It}{i:Nat}{done:List It}{x:It}(h:MAt X Y i k done)(hx:X[i]? =some x)(hc:Y.length<=k+1∨∃y z,Y[k]? =some y/\Y[k+1]? =some z/\x.1<=y.1+z.1):MAt X Y (i+1) k (done++ [x]):=by
 unfold MAt at h ⊢;rw[<-h,drop_at hx,AE];congr 1;rcases hc with hc|⟨y,z,hy,hz,j⟩
 ·rw[RD (l:=Y.drop k) mP,Ka,Ka];rfl
 ·rw[drop_at hy,drop_at hz,Lj,KL (by exact j)];rfl
theorem MAt.pair{X Y:List It}{i:Nat}{done:List It}{y z:It}(h:MAt X Y i k done)(hy:Y[k]? =some y)(hz:Y[k+1]? =some z)(hc:X.length<=i∨∃x,X[i]? =some x/\¬x.1<=y.1+z.1):MAt X Y i (k+2) (done++ [(y.1+z.1,y.2++z.2)]):=by
 unfold MAt at h ⊢;rw[<-h,drop_at hy,drop_at hz,Lj,AE];congr 1;rcases hc with hc|⟨x,hx,j⟩
 ·rw[EB hc,Jy,Jy];rfl
 ·rw[drop_at hx,KI (by exact j)];rfl
theorem MAt.done{X Y:List It}{i k:Nat}{done:List It}(h:MAt X Y i k done)(hi:X.length<=i)(hk:Y.length<=k+1):done=mrg X (Dy Y):=by unfold MAt at h;rw[EB hi,Jy,RD mP,BZ]at h;exact h
theorem lX{y z:It}(hy:y.2≠ [])(hz:z.2≠ []):Cp (y.1+z.1,y.2++z.2)=false:=by have h1:=Fv.2 hy;have h2:=Fv.2 hz;unfold Cp;rw[FG,Ae];omega
theorem next_any(w:World)(A B:Option Addr)(n c m d M:Nat)(X Y:List It)(hn:X.length=n)(hm:Y.length=m)(hN:n<=1000)(hM:m<=1000)(hX:∀x∈X,Cp x=true)(hY:∀y∈Y,y.2≠ []/\y.1<=M)(bm:2*M<18446744073709551616)(ha:Row w w A n 2 (itF X))(hb:Row w w B m 2 (itF Y)):
 Calls prog 316 #[.slice A n c, .slice B m d] w (P0 (mrg X (Dy Y)) w):=by
 have HN:=hid hn;have HM:=hid hm;have HA:=hid ha;have HB:=hid hb;have HX:=hid hX;have HY:=hid hY;obtain⟨j0,al,aq,an,ar⟩:=info_parts QU;obtain⟨h2,bf⟩:=ii (m / 2)
 have bg:∀w,(Instr.makeSlice 399 (.int .i64 (0:Int)) (.int .i64 ((n:Int)+(m:Int) / 2))).run prog w=
  .ok (.slice (some ⟨w,0,none⟩) 0 (n+h2)) (w.alloc (.cells (madeCells #[.int .u64 0,false] ((n+h2)*2)) 404)):=by
  intro w;have h:=run_make (P:=prog) w 399 404 j0 (.agg #[.int .u64 0,false]) underlying399 al aq .i64 .i64 0 ((n:Int)+(m:Int) / 2) mw mw (by rw[ar];omega) mw;rw[show((n:Int)+(m:Int) / 2).toNat=n+h2 by omega]at h;simpa[an,Value.cells]using h
 have bn:h2<=m:=mw
 clear hn hm ha hb hX hY bf;go_enter func316,ntmps316;go_wp2_with fail;have ak:(w.alloc (.cells (madeCells #[.int .u64 0,false] ((n+h2)*2)) 404)).ownsRow w 404 2 (.slice (some ⟨w,0,none⟩) 0 (n+h2)) 0 (itL []):=World.ownsRow_made w _ _ (Ak _) pm (size_madeCells _ _);have az:Below w w (w.alloc (.cells (madeCells #[.int .u64 0,false] ((n+h2)*2)) 404)):=aZ (Ag _ _);go_loopw [5,6,7] (fun v iv kv wr=>∃ (i k q:Nat) (done:List It),i<=n/\k<=m/\q<=2001/\iv= .int .i64 i/\kv= .int .i64 k/\Hid (done.length=q)/\wr.ownsRow w 404 2 v q (itL done)/\Hid (MAt X Y i k done)/\Below w w wr) (fun _ i k _=>(n-(intOf i).toNat)+(m-(intOf k).toNat))
 case atStart=>exact⟨0,0,0,[],mw,mw,mw,rfl,rfl,rfl,ak,rfl,az⟩
 case round=>
  clear az ak bg;obtain⟨i,k,q,done,hi,hk,hq,rfl,rfl,ai,Q,au,bel⟩:=hrel;have ax:=bel.size;have bx:q<=n+m:=by have:=au.out.len;rw[ai.out,HN.out,HM.out]at this;exact this
  obtain⟨va,vc,rfl⟩:=bZ Q;have hr:Hid (∀k,(Value.slice va q vc).ownBlock=some k->w.heap.size<=k):=fun k hk=>(Aj Q k hk).1;have x0:(0:Int)<=(i:Int):=mw
  have z0:(0:Int)<=(k:Int):=mw
  by_cases bq:k+1<m
  ·obtain⟨b,bu,y,rfl,bt,hy,c0,_⟩:=Lv (HB.out.below bel) HM.out (k:=k) mw;obtain⟨b',bj,z,e2,bk,hz,c1,_⟩:=Lv (HB.out.below bel) HM.out (k:=k+1) mw;injection e2 with e2;injection e2 with e3 e4;subst e3 e4;have a1:=HY.out y (Be hy);have a4:=HY.out z (Be hz);have aw:=lX a1.1 a4.1;have U:=au.out.pair hy hz;have Z:=fun x hx a0=>au.out.leaf (x:=x) hx (.inr ⟨y,z,hy,hz,a0⟩);have a9:=a1.2;have be:=a4.2;obtain⟨ya,ys⟩:=y;obtain⟨za,zs⟩:=z;simp only at c0 c1 aw U Z a9 be;obtain⟨ww,bc⟩:=ii (ya+za);rw[<-bc]at aw U Z;have av:=hid U;have ag:=hid Z;have bb:=hid aw;have E:Hid ((ya:Int)+(za:Int)=(ww:Int)):=ou;have s3:IntKind.u64.wrap ((ya:Int)+(za:Int))=(ya:Int)+(za:Int):=m9;have s1:IntKind.i64.wrap ((k:Int)+1)=(k:Int)+1:=Aq _ mw;have z1:(k:Int)<(m:Int):=mw;have z2:(0:Int)<=(k:Int)+1:=mw;have z3:(k:Int)+1<(m:Int):=mw;have z5:((k:Int)+1).toNat=k+1:=mw;have aj:Hid (((k:Int)+1).toNat=k+1/\IntKind.i64.wrap ((k:Int)+1)=(k:Int)+1/\IntKind.u64.wrap ((ya:Int)+(za:Int))=(ya:Int)+(za:Int)):=⟨z5,s1,s3⟩;have HO:=hid Q;have aa:=hid bel;clear hy hz a1 a4 aw U Z bc s1 s3 z5 Q bel;by_cases a6:i<n
   ·obtain⟨b2,ah,x,rfl,ba,hx,d0,d1⟩:=Lv (HA.out.below aa.out) HN.out a6;obtain⟨xa,xs⟩:=x;simp only at d0;have x1:(i:Int)<(n:Int):=mw;have a3:=hid hx;obtain⟨lb,ab⟩:=ii (Cp (xa,xs));rw[<-ab]at d1;have a5:=hid ab;clear hx ab;by_cases a0:xa<=ww
    ·go_wp2_with fail;obtain⟨z5,s1,s3⟩:=aj.out;go_quiet (fail);clear z5 s1 s3;rw[E.out];have G:(wr.drewN nq).ownsRow w 404 2 (.slice va q vc) q (itL done):=eZ HO.out (fun _ _=>rfl);have J:Below w w (wr.drewN nq):=below_drewN aa.out nq;have bi:(wr.drewN nq).cell? ⟨b2,ah+i*2,none⟩=some (.int .u64 (xa:Nat)):=d0;have bp:(wr.drewN nq).cell? ⟨b2,ah+i*2+1,none⟩=some (.bool lb):=d1;have N:w.heap.size<=(wr.drewN nq).heap.size:=ax;generalize wr.drewN nq=wq at *;have ae:=hid G;have L:=hid J;clear G J d0 d1 c0 c1 HO aa;go_wp2_with(at_builtin;refine iZ rfl (.tmp 66) (.tmp 71) 399 rfl w 404 j0 _ 2 16 underlying399 al aq an ar rfl ip _ _ _ mz (ae.out.alloc _) _ 1 1 [.int .u64 (xa:Nat), .bool lb] mz (Src.of_blk (Blk.made _ _ _) 1 1 2 rfl) ml pm mw oT ?_;intro v4 w4 j ac am);go_roundw
     case measure=>exact jo
     case rel=>
      go_light;refine⟨i+1,k,q+1,done++ [(xa,xs)],mw,mw,mw,jp,rfl,?_,?_,ag.out _ a3.out a0,(nZ N L.out).grown ac oT (fun k hk=>hr.out k hk)⟩
      ·show _=_;rw[Ae,ai.out];rfl
      ·rw[zX];rw[a5.out]at j;exact j
    ·have bl:ww<xa:=mw;go_wp2_with fail;obtain⟨z5,s1,s3⟩:=aj.out;go_quiet (fail);clear z5 s1 s3;rw[E.out];have G:(wr.drewN nq).ownsRow w 404 2 (.slice va q vc) q (itL done):=eZ HO.out (fun _ _=>rfl);have J:Below w w (wr.drewN nq):=below_drewN aa.out nq;have N:w.heap.size<=(wr.drewN nq).heap.size:=ax;have bi:(wr.drewN nq).cell? ⟨b2,ah+i*2,none⟩=some (.int .u64 (xa:Nat)):=d0;clear d0 d1;generalize wr.drewN nq=wq at *;have ae:=hid G;have L:=hid J;clear G J c0 c1 HO aa;go_wp2_with(at_builtin;refine iZ rfl (.tmp 75) (.tmp 78) 399 rfl w 404 j0 _ 2 16 underlying399 al aq an ar rfl ip _ _ _ mz (ae.out.alloc _) _ 1 1 [.int .u64 (ww:Nat), .bool false] mz (Src.of_blk (Blk.made _ _ _) 1 1 2 rfl) ml pm mw oT ?_;intro v4 w4 j ac am);go_roundw
     case measure=>exact jo
     case rel=>
      go_light;refine⟨i,k+2,q+1,done++ [(ww,ys++zs)],mw,mw,mw,rfl,jp,?_,?_,av.out (.inr ⟨_,a3.out,mw⟩),(nZ N L.out).grown ac oT (fun k hk=>hr.out k hk)⟩
      ·show _=_;rw[Ae,ai.out];rfl
      ·rw[zX];rw[<-bb.out]at j;exact j
   ·go_wp2_with fail;obtain⟨z5,s1,s3⟩:=aj.out;go_quiet (fail);clear z5 s1 s3;rw[E.out];have G:(wr.drewN nq).ownsRow w 404 2 (.slice va q vc) q (itL done):=eZ HO.out (fun _ _=>rfl);have J:Below w w (wr.drewN nq):=below_drewN aa.out nq;have N:w.heap.size<=(wr.drewN nq).heap.size:=ax;generalize wr.drewN nq=wq at *;have ae:=hid G;have L:=hid J;clear G J c0 c1 HO aa;go_wp2_with(at_builtin;refine iZ rfl (.tmp 75) (.tmp 78) 399 rfl w 404 j0 _ 2 16 underlying399 al aq an ar rfl ip _ _ _ mz (ae.out.alloc _) _ 1 1 [.int .u64 (ww:Nat), .bool false] mz (Src.of_blk (Blk.made _ _ _) 1 1 2 rfl) ml pm mw oT ?_;intro v4 w4 j ac am);go_roundw
    case measure=>exact jo
    case rel=>
     go_light;refine⟨i,k+2,q+1,done++ [(ww,ys++zs)],mw,mw,mw,rfl,jp,?_,?_,av.out (.inl np),(nZ N L.out).grown ac oT (fun k hk=>hr.out k hk)⟩
     ·show _=_;rw[Ae,ai.out];rfl
     ·rw[zX];rw[<-bb.out]at j;exact j
  ·have bd:m<=k+1:=mw;by_cases a6:i<n
   ·obtain⟨b2,ah,x,rfl,ba,hx,d0,d1⟩:=Lv (HA.out.below bel) HN.out a6;obtain⟨xa,xs⟩:=x;simp only at d0;have x1:(i:Int)<(n:Int):=mw;have a3:=hid hx;obtain⟨lb,ab⟩:=ii (Cp (xa,xs));rw[<-ab]at d1;have a5:=hid ab;have ag:=hid (au.out.leaf (x:=(xa,xs)) hx (.inl (by rw[HM.out];exact bd)));have ae:=hid Q;have L:=hid bel;have N:=ax;clear hx ab Q bel;go_wp2_with(at_builtin;refine iZ rfl (.tmp 32) (.tmp 37) 399 rfl w 404 j0 _ 2 16 underlying399 al aq an ar rfl ip _ _ _ mz (ae.out.alloc _) _ 1 1 [.int .u64 (xa:Nat), .bool lb] mz (Src.of_blk (Blk.made _ _ _) 1 1 2 rfl) ml pm mw oT ?_;intro v4 w4 j ac am);go_roundw
    case measure=>exact jo
    case rel=>
     go_light;refine⟨i+1,k,q+1,done++ [(xa,xs)],mw,mw,mw,jp,rfl,?_,?_,ag.out,(nZ N L.out).grown ac oT (fun k hk=>hr.out k hk)⟩
     ·show _=_;rw[Ae,ai.out];rfl
     ·rw[zX];rw[a5.out]at j;exact j
   ·have af:=au.out.done np (by rw[HM.out];exact bd);have ay:(mrg X (Dy Y)).length=q:=(by rw[<-af];exact ai.out);have HD:=hid af;have bh:=hid ay;clear af ay;go_wp2_with fail;go_ret;refine⟨_,rfl,?_,bel⟩;show World.ownsRow _ _ _ _ _ _ _;rw[bh.out,<-HD.out];exact Q
end Lens
namespace Lens
open Go.RowKit Mem Own Srt Canon
def Iq(ks:List Nat)(limit:Int)(w:World)(e:Ending)(w':World):Prop:=
 ∃A c,e= .returned (.tuple #[.slice A (CQ ks limit).length c, .int .i64 (D9 ks limit)])/\Row w' w' A (CQ ks limit).length 1 (jZ .u8 (CQ ks limit))/\Wf A (CQ ks limit).length c/\Below w w w'/\(0<(CQ ks limit).length->∀p,A=some p->w.heap.size<=p.block)
theorem Mx{e:Ending}{x:Int}(hx:x≠0)(h:D9 ks i=x)(he:e= .returned (.tuple #[(),x]))(hb:Below w w w'):Iq ks i w e w':=by
 have h0:CQ ks i= []:=by unfold CQ;rw[Aa (by rw[h];exact hx)]
 refine⟨none,0,?_,?_,?_,hb,fun _ p hp=>by cases hp⟩
 ·rw[he,h0,h];rfl
 ·rw[h0];exact Row.zero
 ·rw[h0];exact Wf.nil
theorem iA(w:World)(A:Option Addr)(n c:Nat)(ks:List Nat)(i:Int)(hn:ks.length=n)(hN:n<=9223372036854775807)(j: -9223372036854775808<=i)(y:i<=9223372036854775807)(h:n>300∨i<1∨i>15):
 Calls prog 275 #[.slice A n c,i] w (Iq ks i w):=by
 have hE:Hid (D9 ks i=13):=by show _=_;unfold D9;rw[hn,Ab h]
 clear hn;by_cases h1:300<n
 ·clear h;go_enter func275,ntmps275;go_wp2_with fail;go_ret2;exact Mx ip hE.out rfl (Ag _ _)
 ·have g1:=ig ((300:Int)<n)
  have g2:=ig (300<n)
  by_cases h2:i<1
  ·clear h;have g3:decide (i<1)=true:=pg;go_enter func275,ntmps275;go_wp2_with fail;go_ret2;exact Mx ip hE.out rfl (Ag _ _)
  ·have h3:15<i:=mw;have g3:=ig (i<1);have g4:decide (15<i)=true:=(by simpa using h3);clear h;go_enter func275,ntmps275;go_wp2_with fail;go_ret2;exact Mx ip hE.out rfl (Ag _ _)
theorem PH(h:L<=15):wrap64 ((2:Int) ^ L)=((2 ^ L:Nat):Int):=by
 have h1:2 ^ L<=2 ^ 15:=Cc mw h;have e:(2:Int) ^ L=((2 ^ L:Nat):Int):=oK
 rw[e];generalize 2 ^ L=p at *;have h2:p<=32768:=h1;unfold wrap64;omega
theorem gN(w:World)(A:Option Addr)(n c L:Nat)(ks:List Nat)(hn:ks.length=n)(hN:n<=300)(z:1<=L)(i:L<=15)(h:2 ^ L<(wZ (kOf ks) n).length)(ha:Row w w A n 1 (jZ .u32 ks)):
 Calls prog 275 #[.slice A n c,L] w (Iq ks L w):=by
 have hE:Hid (D9 ks L=6):=by show _=_;unfold D9;rw[Aa mw,Ab];rw[hn];exact h
 have C:=Np w A n c ks hn mw ha;unfold MM at C;have HN:=hid hn;rw[hn]at C;have C:=hid C;have g1:=ig ((300:Int)<n)
 have g2:=ig (300<n)
 have g3:=ig ((L:Int)<1)
 have g4:=ig ((15:Int)<L)
 have g5:=ig (L<1)
 have g6:=ig (15<L)
 clear ha hn;have t1:decide (wrap64 ((2:Int) ^ L)<((wZ (kOf ks) n).length:Int))=true:=by rw[PH i];exact Bc (Int.ofNat_lt.2 h)
 generalize wZ (kOf ks) n=S at *;go_enter func275,ntmps275;go_wp2_with fail;refine C.out.mono ?_;rintro e w1 ⟨A1,c1,rfl,y,j⟩;go_wp2_with fail;go_ret2;exact Mx ip hE.out rfl j
theorem gG:(prog.info? 5).map (fun i=>(i.zero,i.size,i.bytes))=some (some (.int .u8 0),1,1):=mr
theorem make_u8(n:Nat)(hn:n<=8388608)(w:World):(Instr.makeSlice 28 (.int .i64 (n:Int)) (.int .i64 (n:Int))).run prog w=
 .ok (.slice (some ⟨w,0,none⟩) n n) (w.alloc (.cells (madeCells #[.int .u8 0] n) 5)):=by
 obtain⟨i0,hi,y,j,i⟩:=info_parts gG;have h:=run_make (P:=prog) w 28 5 i0 (.int .u8 0) underlying28 hi y .i64 .i64 (n:Int) (n:Int) mw (Int.le_refl _) nS mw;simp only[Int.toNat_natCast]at h;simpa[j,Value.cells]using h
def U8s(f:Nat->Nat)(n:Nat)(cs:Array Value):Prop:=cs.size=n/\∀i,i<n->cs[i]? =some (.int .u8 (f i:Nat))
theorem U8s.made(n:Nat):U8s (fun _=>0) n (madeCells #[.int .u8 0] n):=my
theorem U8s.set{f g:Nat->Nat}{cs:Array Value}(h:U8s f n cs){i v:Nat}(hv:g i=v)(ho:∀j,j≠i->g j=f j):U8s g n (cs.setIfInBounds i (.int .u8 (v:Nat))):=by
 refine⟨by simpa using h.1,fun j hj=> ?_⟩;have hs:=h.1;rw[Fw];by_cases e:i=j
 ·subst e;rw[Ab rfl,Ab mw,hv]
 ·rw[Aa e,h.2 j hj,ho j (AU e)]
theorem U8s.row{f:Nat->Nat}{cs:Array Value}(h:U8s f n cs)(hb:Blk w g 5 cs)(hl:l=(List.range n).map f):Row w w (some ⟨g,0,none⟩) n 1 (jZ .u8 l):=by
 subst hl;refine Row.of_blk hb hb.lt fun i j hi hj=> ?_;obtain rfl:j=0:=mw
 rw[CM,Bf,h.2 i hi];unfold jZ;rw[Am,BG,List.getElem?_range hi];rfl
theorem Oe{e:Ending}{f:Nat->Nat}{cs:Array Value}(hE:D9 ks i=0)(hl:IC ks i.toNat=(List.range n).map f)
 (h:U8s f n cs)(hb:Blk w' g 5 cs)(he:e= .returned (.tuple #[.slice (some ⟨g,0,none⟩) n n,ij]))(y:Below w w w')(hg:w.heap.size<=g):Iq ks i w e w':=by
 have h0:CQ ks i=(List.range n).map f:=by unfold CQ;rw[Ab hE,hl]
 have j:(CQ ks i).length=n:=by rw[h0];simp
 refine⟨some ⟨g,0,none⟩,n,?_,?_,?_,y,fun _ p hp=>by cases hp;exact hg⟩
 ·rw[he,hE,j]
 ·rw[j];exact h.row hb h0
 ·rw[j];exact Wf.some (Ak _)
theorem fE(w:World)(A:Option Addr)(n c L:Nat)(ks:List Nat)(hn:ks.length=n)(hN:n<=300)(G:1<=L)(J:L<=15)(h:(wZ (kOf ks) n).length<2)(ha:Row w w A n 1 (jZ .u32 ks)):
 Calls prog 275 #[.slice A n c,L] w (Iq ks L w):=by
 have N:2<=2 ^ L:=by have:=Cc (n:=2) mw G;simpa using this
 have hE:Hid (D9 ks L=0):=oD
 have C:=Np w A n c ks hn mw ha;unfold MM at C;have HN:=hid hn;rw[hn]at C;have C:=hid C;have g1:=ig ((300:Int)<n)
 have g2:=ig (300<n)
 have g3:=ig ((L:Int)<1)
 have g4:=ig ((15:Int)<L)
 have g5:=ig (L<1)
 have g6:=ig (15<L)
 have t1:decide (wrap64 ((2:Int) ^ L)<((wZ (kOf ks) n).length:Int))=false:=by rw[PH J];exact Bt (by rw[Int.ofNat_lt];omega)
 have hV:Hid (IC ks L=(List.range n).map fun s=>if s∈wZ (kOf ks) n then 1 else 0):=by show _=_;unfold IC;rw[hn];show(if(wZ (kOf ks) n).length<2 then _ else _)=_;rw[Ab h]
 have HS:Hid (∀s∈wZ (kOf ks) n,s<n):=fun s hs=>(JO.1 hs).1;have U:=make_u8 n mw;clear ha hn;generalize wZ (kOf ks) n=S at *;have h2:S.length=0∨S.length=1:=mw
 rcases h2 with h2|h2
 ·obtain rfl:S= []:=Gf h2;clear h2 h;simp only[List.length_nil]at C;have t2:decide (wrap64 ((2:Int) ^ L)<0)=false:=t1;clear t1;go_enter func275,ntmps275;go_wp2_with fail;refine C.out.mono ?_;rintro e w1 ⟨A1,c1,rfl,z,y⟩;go_wp2_with fail;go_ret2;refine Oe hE.out (by rw[Br,hV.out]) (cs:=madeCells #[.int .u8 0] n) ?_ (Blk.made _ _ _) rfl (nZ y.size y) y.size;have:=U8s.made n;simpa using this
 ·obtain⟨s,rfl⟩:∃s,S= [s]:=List.length_eq_one_iff.1 h2;clear h2 h;simp only[List.length_cons,List.length_nil,Nat.zero_add]at C;have t2:decide (wrap64 ((2:Int) ^ L)<1)=false:=t1;clear t1;have hs:=HS.out s oK;go_enter func275,ntmps275;go_wp2_with fail;refine C.out.mono ?_;rintro e w1 ⟨A1,c1,rfl,z,y⟩;obtain⟨b,Q,x,rfl,Y,hx,c0⟩:=Cx z oK (i:=0) mw;simp at hx;subst hx;have E:=y.size;have bl:=Blk.made w1 5 (madeCells #[.int .u8 0] n);have hU:=U8s.made n;have d0:=bl.cell s;rw[hU.2 s hs]at d0;have f0:=bl.frozen s;have HU:Hid (U8s (fun i=>if i∈ [s]then 1 else 0) n ((madeCells #[.int .u8 0] n).setIfInBounds s (.int .u8 1))):=hU.set (v:=1) oK (fun j hj=>by simp[hj]);have M:=y;clear hU;have x2:(0:Int)<=(s:Int):=by omega
  have x3:(s:Int)<(n:Int):=mw
  rw[Bf]at c0;go_wp2_with fail;go_ret2;exact Oe hE.out (by rw[Br,hV.out]) HU.out (Blk.made _ _ _) rfl (nZ E M) E
def RowsAt(w:World)(base:Nat)(k:Nat->Nat)(S:List Nat)(lf v:Value)(vals:List Value):Prop:=
 OwnIt w base lf (lv k S)/\w.ownsRow base 399 1 v vals.length vals/\∀i x,vals[i]? =some x->OwnIt w base x (rowN (lv k S) i)
theorem OwnIt.kept{v:Value}{X:List It}(h:OwnIt w base v X)(hk:∀g,v.ownBlock=some g->w'.heap[g]? =w.heap[g]?):OwnIt w' base v X:=eZ h hk
theorem RowsAt.kept{k:Nat->Nat}{v:Value}(h:RowsAt w base k S lf v vals)(hk:∀g,base<=g->g<w.heap.size->w'.heap[g]? =w.heap[g]?):RowsAt w' base k S lf v vals:=by
 obtain⟨h1,h2,h3⟩:=h;refine⟨h1.kept (fun g hg=> ?_),eZ h2 (fun g hg=> ?_),fun i x hx=>(h3 i x hx).kept (fun g hg=> ?_)⟩
 ·have:=Aj h1 g hg;exact hk g this.1 this.2
 ·have:=Aj h2 g hg;exact hk g this.1 this.2
 ·have:=Aj (h3 i x hx) g hg;exact hk g this.1 this.2
theorem RowsAt.push{k:Nat->Nat}{v v' x:Value}(h:RowsAt w base k S lf v vals)(hx:OwnIt w base x (rowN (lv k S) vals.length))
 (ho:w'.ownsRow base 399 1 v' (vals.length+1) (vals++ [x]))(hg:w.grownBy w' v.ownBlock):RowsAt w' base k S lf v' (vals++ [x]):=by
 obtain⟨h1,h2,h3⟩:=h
 have keep:∀ (y:Value) (X:List It),OwnIt w base y X->OwnIt w' base y X:=fun y X hy=>hy.kept fun g hgy=>by
  refine hg.block g (Aj hy g hgy).2 ?_;rcases ER hy h2 ip with h0|h0
  ·rw[h0]at hgy;cases hgy
  ·rw[<-hgy];exact h0
 refine⟨keep _ _ h1,by simpa using ho,fun i y hy=> ?_⟩;rw[List.getElem?_append]at hy;split at hy
 ·exact keep y _ (h3 i y hy)
 ·have hi:i-vals.length< [x].length:=(Cv.1 hy).1;have hm:=Be hy;simp at hm hi;subst hm;have:i=vals.length:=by omega
  rw[this];exact keep y _ hx
theorem RowsAt.at_{k:Nat->Nat}{v:Value}(h:RowsAt w base k S lf v vals){i:Nat}(hi:i<vals.length):
 ∃g j A c,v= .slice (some ⟨g,0,none⟩) vals.length j/\base<=g/\g<w.heap.size/\w.cell? ⟨g,i,none⟩=some (.slice A (rowN (lv k S) i).length c)/\OwnIt w base (.slice A (rowN (lv k S) i).length c) (rowN (lv k S) i):=by
 obtain⟨h1,h2,h3⟩:=h;have hv:vals[i]? =some vals[i]:=Az hi;have ho:=h3 i _ hv;obtain⟨A,c,hs⟩:=ho.shape;rcases h2.2 with ⟨_,h0⟩|⟨g,j,cur,z,hb,hh,J,E,G,y⟩
 ·omega
 ·refine⟨g,j,A,c,z,hb,Blk.lt hh,?_,by rw[hs]at ho;exact ho⟩;have h4:vals[i]? =cur[i]? :=by have h5:(cur.toList.take (vals.length*1))[i]? =vals[i]? :=(by rw[y]);rw[<-h5,Gd,Ab mw];simp
  rw[Blk.cell (t:=399) hh,<-h4,hv,hs]
theorem OwnIt.cells{X:List It}(h:OwnIt w base (.slice A X.length c) X)(h0:0<X.length):
 ∃g,A=some ⟨g,0,none⟩/\base<=g/\g<w.heap.size/\X.length<=c/\c<=maxLen/\∀i x,X[i]? =some x->w.cell? ⟨g,i*2,none⟩=some (.int .u64 (x.1:Nat))/\w.cell? ⟨g,i*2+1,none⟩=some (.bool (Cp x)):=by
 rcases h.2 with ⟨_,h1⟩|⟨g,L,cur,hv,hb,hh,G,E,J,y⟩
 ·omega
 ·injection hv with e1 e2 e3;subst e1 e3;refine⟨g,rfl,hb,Blk.lt hh,G,E,fun i x hx=> ?_⟩;have hi:i<X.length:=(Cv.1 hx).1;have hg:X.getD i (0,[])=x:=by rw[Am,hx];rfl
  have z:∀j,j<2->w.cell? ⟨g,i*2+j,none⟩=some (itF X i j):=fun j hj=>by rw[Blk.cell (t:=404) hh,<-Lq X i j hi hj,<-y,Gd,Ab mw];simp
  have k0:=z 0 mw;have k1:=z 1 mw;rw[itF,Ab rfl,hg]at k0;rw[itF,Aa mw,hg]at k1;exact⟨k0,k1⟩
def I8(k:Nat->Nat)(S:List Nat):Nat->Nat->Nat->Nat
 |0,_,_=>0
 |R+1,t,s=>BM k S R t s
def O6(k:Nat->Nat)(S:List Nat)(R t:Nat):Prop:=R=0∨t<=(rowN (lv k S) (R-1)).length
theorem fO{k:Nat->Nat}(R t s:Nat)(ht:t<=(rowN (lv k S) R).length):
 I8 k S (R+1) t s=(if s∈S.take (nl (rowN (lv k S) R) t)then 1 else 0)+I8 k S R (2*(t-nl (rowN (lv k S) R) t)) s/\O6 k S R (2*(t-nl (rowN (lv k S) R) t)):=by
 rcases R with _|R
 ·exact⟨rfl, .inl rfl⟩
 ·obtain⟨n,q,h1,h2,h3,h4,_⟩:=row_take R t ht;refine⟨rfl, .inr ?_⟩;rw[h4,Nat.add_sub_cancel];rw[show t-n=q by omega];exact h3
def LL(k:Nat->Nat)(S:List Nat)(L:Nat)(R t:Nat)(f:Nat->Nat):Prop:=∀s,BM k S (L-1) (2*S.length-2) s=f s+I8 k S R t s
def InAt(S:List Nat)(f0 f:Nat->Nat)(m:Nat):Prop:=∀s,f s=f0 s+if s∈S.take m then 1 else 0
theorem InAt.step{f0 f:Nat->Nat}(hS:S.Nodup)(h:InAt S f0 f m)(hs:S[m]? =some s):InAt S f0 (fun j=>if j=s then f s+1 else f j) (m+1)/\f s=f0 s:=by
 have y:m<S.length:=(Cv.1 hs).1;have i:S.take (m+1)=S.take m++ [s]:=by rw[Cj,hs];rfl
 have hn:s ∉ S.take m:=by intro hm;have h2:=hS.sublist (List.take_sublist (m+1) S);rw[i,List.nodup_append]at h2;exact h2.2.2 s hm s oK rfl
 have h1:=h s;rw[Aa hn]at h1;refine⟨fun j=> ?_,mw⟩;show(if j=s then f s+1 else f j)=_;rw[i];by_cases e:j=s
 ·subst e;rw[Ab rfl,Ab oK];omega
 ·rw[Aa e,h j];simp[e]
theorem eQ(X:List It)(i:Nat):nl X i<=i:=by unfold nl;have:=List.countP_le_length (p:=Cp) (l:=X.take i);rw[AZ]at this;omega
theorem run_head{P:Program}{t e:TypeId}(ht:P.underlying t=some (.slice e))(hs:∀w,(sizeOf e).run P w= .ok s w)(A:Option Addr)(len i:Nat)(kh:IntKind)(h:Int)(m:Nat)(hh:h=m)(hm:m<=i)(w:World):
 (Instr.slice t (.slice A len i) none (some (.int kh h)) none).run P w= .ok (.slice (AQ A 0 i s) m i) w:=by
 subst hh;have he:P.elem t=e:=oV
 rw[run_slice_h w t A len i nP kh (m:Int) mw mw,he,hs];rfl
end Lens
namespace Lens
open Go.RowKit Mem Own Srt Canon
theorem lE:(prog.info? 399).map (fun i=>(i.zero,i.size,i.bytes))=some (some (.slice none 0 0),1,24):=mr
def lenOf:Value->Nat
 | .slice _ n _=>n
 |_=>0
structure Syms (ks:List Nat) (n:Nat) (S:List Nat):Prop where
 sorted:S.Pairwise (Lt (kOf ks))
 nodup:S.Nodup
 below:∀s∈S,s<n
 small:∀s∈S,kOf ks s<=4294967295
 two:2<=S.length
 few:S.length<=300
 le:S.length<=n
theorem OJ(h:Syms ks n S){r:Nat}(hr:r<=14):(∀y∈rowN (lv (kOf ks) S) r,y.2≠ []/\y.1<=70368744161280)/\S.length<=(rowN (lv (kOf ks) S) r).length/\(rowN (lv (kOf ks) S) r).length<=2*S.length:=by
 have h2:=h.two;refine⟨fun y hy=>⟨NM r y hy,?_⟩,?_,?_⟩
 ·have h1:=Pu h.small r y hy;have h3:2 ^ r<=2 ^ 14:=Cc mw hr;have h4:2 ^ r*4294967295<=2 ^ 14*4294967295:=Gc _ h3;omega
 ·rcases r with _|r
  ·rw[Lb];exact Ak _
  ·rw[Nv];omega
 ·have h3:=PD (k:=kOf ks) (S:=S) mw r;generalize (S.length-1) / 2 ^ r=d at h3;omega
theorem dX(h:Syms ks n S)(hR:R<=14)(ht:t<=(rowN (lv (kOf ks) S) R).length):t-nl (rowN (lv (kOf ks) S) R) t<=S.length:=by
 rcases R with _|R
 ·rw[Lb]at ht;rw[LG t ht];omega
 ·obtain⟨n',q,h1,h2,h3,h4,_⟩:=row_take R t ht;have h5:=(OJ h (r:=R) mw).2.2;rw[h4];omega
theorem cV{k:Nat->Nat}{f:Nat->Nat}(h:LL k S L R t f)(hL:1<=L)(s:Nat):f s<=L:=by have h1:=h s;have h2:=U1 (k:=k) (S:=S) (L-1) (2*S.length-2) s;omega
theorem kF(w:World)(A:Option Addr)(n c L:Nat)(ks:List Nat)(hn:ks.length=n)(hN:n<=300)(bh:1<=L)(cE:L<=15)(h:2<=(wZ (kOf ks) n).length)(hp:(wZ (kOf ks) n).length<=2 ^ L)(ba:∀x∈ks,x<4294967296)(ha:Row w w A n 1 (jZ .u32 ks)):
 Calls prog 275 #[.slice A n c,L] w (Iq ks L w):=by
 have hE:Hid (D9 ks L=0):=oD
 have C:=Np w A n c ks hn mw ha;unfold MM at C;have HN:=hid hn;rw[hn]at C;have g1:=ig ((300:Int)<n)
 have g2:=ig (300<n)
 have g3:=ig ((L:Int)<1)
 have g4:=ig ((15:Int)<L)
 have g5:=ig (L<1)
 have g6:=ig (15<L)
 have t1:decide (wrap64 ((2:Int) ^ L)<((wZ (kOf ks) n).length:Int))=false:=by rw[PH cE];exact Bt (by rw[Int.ofNat_lt];omega)
 have hV:Hid (IC ks L=(List.range n).map (BM (kOf ks) (wZ (kOf ks) n) (L-1) (2*(wZ (kOf ks) n).length-2))):=by show _=_;unfold IC;rw[hn];show(if(wZ (kOf ks) n).length<2 then _ else _)=_;rw[Aa mw]
 have HS:Hid (Syms ks n (wZ (kOf ks) n)):=by
  refine⟨I3 _ _,Y6 _ _,fun s hs=>(JO.1 hs).1,fun s hs=> ?_,h,by have:=Oj (kOf ks) n;omega,Oj (kOf ks) n⟩;have b0:=(JO.1 hs).1;have:kOf ks s=ks[s]' mw:=by simp[kOf,List.getD_eq_getElem?_getD,List.getElem?_eq_getElem (show s<ks.length by omega)]
  rw[this];have:=ba _ (Fe (show s<ks.length by omega));omega
 have bf:Hid (2*(wZ (kOf ks) n).length-2<=(rowN (lv (kOf ks) (wZ (kOf ks) n)) (L-1)).length):=U3 bh mw hp;have cz:=make_u8 n mw;have HA:=hid ha;have cX:=hid ba;obtain⟨j0,cj,cG,cv,cS⟩:=info_parts lE;clear ha hn hp ba;generalize wZ (kOf ks) n=S at *;obtain⟨q,hq⟩:∃q,S.length=q:=⟨_,rfl⟩;have HQ:=hid hq;have dp:q<=300:=by have:=HS.out.few;omega
 have cB:q<=n:=by have:=HS.out.le;omega
 rw[hq]at C t1 h;have CC:=hid C;have q1:((q:Int)==1)=false:=oT
 have q2:=ig ((q:Int)<2)
 have q3:=ig (q<2)
 clear hq C;go_enter func275,ntmps275;go_wp2_with fail;refine CC.out.mono ?_;rintro e w1 ⟨A1,c1,rfl,E,bp⟩;have cC:=bp.size;go_wp2_with fail;have bn:Blk (w1.alloc (.cells (madeCells #[.int .u8 0] n) 5)) w1 5 _:=Blk.made _ _ _;have aw:Below w w (w1.alloc (.cells (madeCells #[.int .u8 0] n) 5)):=nZ cC bp;have bm:=E.alloc (Ak _) (.cells (madeCells #[.int .u8 0] n) 5);have cq:=bn.lt;generalize w1.alloc (.cells (madeCells #[.int .u8 0] n) 5)=w2 at *;have bk:=hid bm;have a3:=aw.size;clear E bm bp CC cz t1;refine(iH w2 A A1 n c q c1 ks S HN.out HQ.out mw cB HS.out.below cX.out ((HA.out.below aw).mono a3) (bk.out.mono mw)).mono ?_;rintro e w3 ⟨v3,rfl,J,be⟩;obtain⟨A3,c3,rfl⟩:=J.shape;have af:(lv (kOf ks) S).length=q:=by rw[Gj,HQ.out]
 have aq:=be.size
 have ah:RowsAt (w3.alloc (.cells #[.slice A3 (lv (kOf ks) S).length c3] 399)) w2 (kOf ks) S (.slice A3 (lv (kOf ks) S).length c3) (.slice (some ⟨w3,0,none⟩) 1 1) [.slice A3 (lv (kOf ks) S).length c3]:=by
  have ho:OwnIt (w3.alloc (.cells #[.slice A3 (lv (kOf ks) S).length c3] 399)) w2 (.slice A3 (lv (kOf ks) S).length c3) (lv (kOf ks) S):=
   OwnIt.kept J (fun g hg=>DJ w3 _ g (Aj J g hg).2)
  refine⟨ho,⟨rfl, .inr ⟨w3.heap.size,1,#[.slice A3 (lv (kOf ks) S).length c3],rfl,aq,heap_alloc_new w3 _,Ak _,pm,rfl,rfl⟩⟩,fun i x hx=> ?_⟩;rcases i with _|i
  ·simp at hx;subst hx;exact ho
  ·simp at hx
 have an:Below w2 w2 (w3.alloc (.cells #[.slice A3 (lv (kOf ks) S).length c3] 399)):=nZ aq be;rw[af]at *;have av:=hid ah;clear ah af J;go_wp2_with fail;go_loopw [9] (fun v wr=>∃ (r:Nat) (g bd:Nat) (vals:List Value),1<=r/\r<=L/\v= .slice (some ⟨g,0,none⟩) r bd/\Hid (vals.length=r)/\Hid (RowsAt wr w2 (kOf ks) S (.slice A3 q c3) v vals)/\Below w2 w2 wr) (fun v _=>L-(lenOf v))
 case atStart=>exact⟨1,w3.heap.size,1,[.slice A3 q c3],mw,bh,rfl,by show _=_;rfl,av,an⟩
 case round=>as_aux_lemma=>
  clear an av be;obtain⟨r,g,bd,vals,dn,bm,rfl,Z,hR,bel⟩:=hrel;have b9:=bel.size;by_cases ak:r<L
  ·have cy:r-1<vals.length:=(by rw[Z.out];omega);obtain⟨g',a1,Ai,ci,hv,hg,b1,y,G⟩:=hR.out.at_ cy;injection hv with e1 e2 e3;injection e1 with e1;injection e1 with e1;subst e1;have aa:=OJ HS.out (r:=r-1) mw;rw[HQ.out]at aa;have cc:rowN (lv (kOf ks) S) vals.length=mrg (lv (kOf ks) S) (Dy (rowN (lv (kOf ks) S) (r-1))):=(by rw[Z.out];obtain⟨r',rfl⟩:∃r',r=r'+1:=⟨r-1,mw⟩;rfl);have aj:=hR.out.1;have ax:(lv (kOf ks) S).length=q:=(by rw[Gj,HQ.out]);have ab:Row wr wr A3 q 2 (itF (lv (kOf ks) S)):=(by have h1:=aj;rw[<-ax]at h1;have h2:=h1.row;rw[ax]at h2;exact h2);have U:=G.row;obtain⟨m,hm⟩:=ii ((rowN (lv (kOf ks) S) (r-1)).length);rw[<-hm]at y G U aa;have CN:=hid (next_any wr A3 Ai q c3 m ci 70368744161280 (lv (kOf ks) S) (rowN (lv (kOf ks) S) (r-1)) ax hm.symm mw mw LN aa.1 mw ab U);have bN:=hid cc;have x0:(0:Int)<=(r:Int)-1:=mw;have x1:(r:Int)-1<(r:Int):=mw;have x2:((r:Int)-1).toNat=r-1:=mw;have x3:IntKind.i64.wrap ((r:Int)-1)=(r:Int)-1:=Aq _ mw;clear hm aa cc aj ab U G ax e2 e3;clear x2 x3;go_wp2_with fail;refine CN.out.mono ?_;rintro e w5 ⟨v5,rfl,M,ay⟩;obtain⟨A5,c5,rfl⟩:=M.shape;have de:=ay.size;rw[<-bN.out]at M;obtain⟨m5,bg⟩:=ii ((rowN (lv (kOf ks) S) vals.length).length);have bq:=hR.out.kept (w':=w5) (fun g _ ak=>ay.block g ak);have bb:RowsAt (w5.alloc (.cells #[.slice A5 m5 c5] 399)) w2 (kOf ks) S (.slice A3 q c3) (.slice (some ⟨g,0,none⟩) r bd) vals:=bq.kept (fun g _ ak=>DJ w5 _ g ak);have z:OwnIt w5 w2 (.slice A5 (rowN (lv (kOf ks) S) vals.length).length c5) (rowN (lv (kOf ks) S) vals.length):=kZ M b9;rw[<-bg]at z;have bC:OwnIt (w5.alloc (.cells #[.slice A5 m5 c5] 399)) w2 (.slice A5 m5 c5) (rowN (lv (kOf ks) S) vals.length):=z.kept (fun g hg=>DJ w5 _ g (Aj z g hg).2);have E:=bb.2.1;rw[Z.out]at E;have ag:Below w2 w2 (w5.alloc (.cells #[.slice A5 m5 c5] 399)):=nZ mw (uZ ay b9 bel);have e5:(mrg (lv (kOf ks) S) (Dy (rowN (lv (kOf ks) S) (r-1)))).length=m5:=(by rw[bg,bN.out]);rw[e5];have cA:=hid bb;have c8:=hid bC;have a4:=hid E;have cT:=hid ag;clear e5 bg M z bq bb bC E ag y CN ay;go_wp2_with(at_builtin;refine iZ rfl (.tmp 57) (.tmp 66) 401 rfl w2 399 j0 _ 1 24 underlying401 cj cG cv cS rfl ip _ _ _ mz a4.out _ 1 1 [.slice A5 m5 c5] mz (Src.of_blk (Blk.made _ _ _) 1 1 1 rfl) mp pm mw oT ?_;intro v6 w6 Y b3 da);go_roundw
   case rel=>go_light;obtain⟨g6,a5,bj⟩:=IP Y;subst bj;have bc:=cA.out.push c8.out (by rw[Z.out];exact Y) b3;refine⟨r+1,g6,a5,vals++ [.slice A5 m5 c5],mw,mw,rfl,?_,hid bc,cT.out.grown b3 oT (fun k hk=>(Aj a4.out k hk).1)⟩;show _=_;rw[Ae,Z.out];rfl
   case measure=>go_light;obtain⟨g6,a5,bj⟩:=IP Y;subst bj;simp[lenOf];omega
  ·obtain rfl:L=r:=by omega
   have az:Blk wr w1 5 (madeCells #[.int .u8 0] n):=bn.below bel cq;have au:Row wr w1 A1 q 1 (jZ .i64 S):=bk.out.below (bel.mono mw);have b7:Below w w wr:=aw.trans (bel.mono a3);obtain⟨w6,rfl⟩:=ii wr;have bi:=hid au;have co:=hid b7;have bt:Hid (LL (kOf ks) S L L (2*q-2) (fun _=>0)):=(by intro s;obtain⟨L',rfl⟩:∃L',L=L'+1:=⟨L-1,mw⟩;rw[HQ.out,I8,Nat.add_sub_cancel];show _=0+_;omega);have b8:Hid (O6 (kOf ks) S L (2*q-2)):=(by have:=bf.out;rw[HQ.out]at this;exact .inr this);have bu:Hid (U8s (fun _=>0) n (madeCells #[.int .u8 0] n)):=U8s.made n;have bS:∃R',L=R'+1/\Value.int .i64 ((L:Int)-1)= .int .i64 (R':Nat):=⟨L-1,mw,Aw (Value.int .i64) mw⟩;have cH:g<w6.heap.size/\w2.heap.size<=g:=(by obtain⟨g',a1,Ai,ci,hv,hg,b1,_⟩:=hR.out.at_ (i:=0) (by rw[Z.out];omega);injection hv with e1;injection e1 with e1;injection e1 with e1;omega);have b1:=az.lt;have c6:=hid bS;clear au b7 bk bn aw aq bS;go_wp2_with fail;go_loopw [10,11] (fun tv rv wr=>∃ (R t:Nat) (f:Nat->Nat) (cs:Array Value),R<=L/\t<=2*q/\tv= .int .i64 t/\((R=0/\rv= .int .i64 (-1))∨(∃R',R=R'+1/\rv= .int .i64 (R':Nat)))/\Hid (O6 (kOf ks) S R t)/\Hid (LL (kOf ks) S L R t f)/\Hid (U8s f n cs)/\Blk wr w1 5 cs/\Hid (Kept (fun b=>b<w6.heap.size/\b≠w1.heap.size) w6 wr)) (fun _ rv _=>(intOf rv+1).toNat)
   case atStart=>exact⟨L,2*q-2,_,_,Ak _,mw,Aw (Value.int .i64) mw, .inr c6.out,b8,bt,bu,az,Kept.refl _ _⟩
   case round=>as_aux_lemma=>
    clear b8 bt bu az;obtain⟨R,t,f,cs,df,ht,rfl,cp,hT,hC,hU,bl,hK⟩:=hrel;have dk:=hK.out.size;rcases cp with ⟨rfl,rfl⟩|⟨R',rfl,rfl⟩
    ·go_wp2_with fail;go_ret2;refine Oe hE.out (f:=f) ?_ hU.out bl rfl (co.out.trans (hK.out.below (fun b hb=>⟨mw,mw⟩))) mw;rw[Br,hV.out];refine J4 fun s _=> ?_;have:=hC.out s;rw[I8]at this;omega
    ·obtain⟨g',a1,Ai,ci,hv,dg,dc,y,G⟩:=hR.out.at_ (i:=R') (by rw[Z.out];omega);injection hv with e1 e2 e3;injection e1 with e1;injection e1 with e1;subst e1;have aa:=(OJ HS.out (r:=R') mw).2;rw[HQ.out]at aa;obtain⟨gx,rfl,di,a6,cP,dl,ac⟩:=G.cells (by omega)
     have a9:t<=(rowN (lv (kOf ks) S) R').length:=by
      rcases hT.out with h0|h0
      ·omega
      ·rwa [Nat.add_sub_cancel]at h0
     have al:=fun s=>fO (k:=kOf ks) (S:=S) R' t s a9;have ai:=hid al;have a0:=hid ac;have b4:=(Pp (k:=kOf ks) (S:=S) R' t a9).1;obtain⟨m,hm⟩:=ii ((rowN (lv (kOf ks) S) R').length);rw[<-hm]at y aa cP a9;have HM:=hid hm.symm;have d0:wr.cell? ⟨g,R',none⟩=some (.slice (some ⟨gx,0,none⟩) m ci):=(World.cell?_of_block (a:=⟨g,R',none⟩) (hK.out.block g ⟨cH.1,mw⟩)).trans y
     have p1:∀w,(Instr.slice 399 (.slice (some ⟨gx,0,none⟩) m ci) none (some (.int .i64 (t:Int))) none).run prog w= .ok (.slice (some ⟨gx,0,none⟩) t ci) w:=by
      intro w;rw[run_head (P:=prog) underlying399 Tryz.sizeOf404 _ m ci .i64 (t:Int) t rfl mw w];unfold AQ;split
      ·rfl
      ·simp[FY]
     have bx:Hid (InAt S f f (nl (rowN (lv (kOf ks) S) R') 0)):=(by intro s;rw[Vm];simp);have x0:(0:Int)<=(R':Int):=mw;have x1:(R':Int)<(L:Int):=mw;clear hm al ac G y e2 e3 hT;obtain⟨wp,rfl⟩:=ii wr;go_wp2_with fail;go_loopw [12,86] (fun nv iv wr=>∃ (i:Nat) (f':Nat->Nat) (ae:Array Value),i<=t/\nv= .int .i64 (nl (rowN (lv (kOf ks) S) R') i:Nat)/\iv= .int .i64 i/\Hid (InAt S f f' (nl (rowN (lv (kOf ks) S) R') i))/\Hid (U8s f' n ae)/\Blk wr w1 5 ae/\Hid (Kept (fun b=>b<w6.heap.size/\b≠w1.heap.size) w6 wr)) (fun _ i _=>t-(intOf i).toNat)
     case atStart=>exact⟨0,f,cs,mw,by rw[Vm];rfl,rfl,bx,hU,bl,hK⟩
     case round=>as_aux_lemma=>
      clear bl hU hK bx d0 p1;obtain⟨i,f',ae,hi,rfl,rfl,hI,hU,bl,hK⟩:=hrel;have dd:=hK.out.size;by_cases ak:i<t
      ·obtain⟨x,hx⟩:∃x,(rowN (lv (kOf ks) S) R')[i]? =some x:=⟨_,Az (by rw[HM.out];omega)⟩;obtain⟨e0,e1⟩:=a0.out i x hx;have c0:wr.cell? ⟨gx,i*2,none⟩=_:=(World.cell?_of_block (a:=⟨gx,i*2,none⟩) (hK.out.block gx ⟨a6,mw⟩)).trans e0;have c1:wr.cell? ⟨gx,i*2+1,none⟩=_:=(World.cell?_of_block (a:=⟨gx,i*2+1,none⟩) (hK.out.block gx ⟨a6,mw⟩)).trans e1;have Q:=Ws _ i x hx;have cL:=(Pp (k:=kOf ks) (S:=S) R' (i+1) (by rw[HM.out];omega)).1;rw[HQ.out]at cL;generalize rowN (lv (kOf ks) S) R'=X at *;obtain⟨xa,xs⟩:=x;obtain⟨lb,b6⟩:=ii (Cp (xa,xs));rw[<-b6]at c1 Q;simp only at c0;obtain⟨N,ce⟩:=ii (nl X i);rw[<-ce]at hI Q ⊢;have x2:(0:Int)<=(i:Int):=mw;have x3:(i:Int)<(t:Int):=mw;have dm:gx<wr.heap.size:=mw;clear hx e0 e1 ce b6;cases lb
       ·rw[Aa oK,Bf]at Q;have ar:=hid Q;clear Q;go_wp2_with fail;go_roundw
        case rel=>go_light;exact⟨i+1,f',ae,mw,by rw[ar.out];rfl,jp,by rw[ar.out];exact hI,hU,bl.alloc _,hK.out.alloc (fun b hb=>by have:=hb.1;omega) _⟩
        case measure=>exact jo
       ·rw[Ab rfl]at Q;have c7:N<q:=mw;obtain⟨b,cd,s,rfl,dj,hs,d0⟩:=Cx bi.out HQ.out c7;have d1:wr.cell? ⟨b,cd+N,none⟩=_:=(World.cell?_of_block (a:=⟨b,cd+N,none⟩) (hK.out.block b ⟨mw,mw⟩)).trans d0;have b0:=HS.out.below s (Be hs);have az:=bl.lt;have c2:=bl.cell s;rw[hU.out.2 s b0]at c2;have f2:=bl.frozen s;obtain⟨ca,cw⟩:=hI.out.step HS.out.nodup hs;have cm:=cV hC.out bh s;have cf:=hU.out.set (g:=fun j=>if j=s then f' s+1 else f' j) (i:=s) (v:=f' s+1) oK (fun j hj=>by simp[hj]);have cr:f' s<=15:=mw;have ar:=hid Q;have ai:=hid ca;have c4:=hid cf;obtain⟨fs,am⟩:=ii (f' s);rw[<-am]at c2 cr;have ct:=hid am;have s1:IntKind.u8.wrap ((fs:Int)+1)=(fs:Int)+1:=(by rw[IntKind.wrap_u8];omega);have y0:(0:Int)<=(N:Int):=mw;have y1:(N:Int)<(q:Int):=mw;have y2:(0:Int)<=(s:Int):=mw;have y3:(s:Int)<(n:Int):=mw;have dh:b<wr.heap.size:=mw;clear Q ca cf cw cm am hs d0;go_wp2_with fail;go_roundw
        case rel=>
         go_light;refine⟨i+1,_,ae.setIfInBounds s (.int .u8 ((f' s+1:Nat):Int)),mw,by rw[ar.out];go_num,jp,by rw[ar.out];exact ai,c4,?_,?_⟩
         ·rw[<-ct.out];exact(bl.set s _).alloc _
         ·exact(hK.out.set (p:=⟨w1.heap.size,s,none⟩) (fun hb=>hb.2 rfl) _).alloc (fun b hb=>by have:=hb.1;simp;omega) _
        case measure=>exact jo
      ·obtain rfl:i=t:=by omega
       have hE2:Hid (∀s,f s+I8 (kOf ks) S (R'+1) i s=f' s+I8 (kOf ks) S R' (2*(i-nl (rowN (lv (kOf ks) S) R') i)) s):=(by intro s;have h1:=(ai.out s).1;have h2:=hI.out s;omega);have b5:=(ai.out 0).2;have c9:=eQ (rowN (lv (kOf ks) S) R') i;have cx:=dX HS.out (R:=R') (t:=i) mw (by rw[HM.out];omega);rw[HQ.out]at cx;generalize nl (rowN (lv (kOf ks) S) R') i=N at *;have cl:=hid b5;have cu:Hid (LL (kOf ks) S L R' (2*(i-N)) f'):=by intro s;rw[hC.out s,hE2.out s]
       have cg:(R'=0/\Value.int .i64 ((R':Int)-1)= .int .i64 (-1))∨(∃R2,R'=R2+1/\Value.int .i64 ((R':Int)-1)= .int .i64 (R2:Nat)):=by
        rcases R' with _|R2
        ·exact .inl ⟨rfl,rfl⟩
        ·exact .inr ⟨R2,rfl,Aw (Value.int .i64) mw⟩
       have cF:=hid cg;clear b5 cg hC hI ai hE2;go_wp2_with fail;go_roundw
       case rel=>go_light;exact⟨R',2*(i-N),f',ae,mw,mw,Aw (Value.int .i64) mw,cF.out,cl,cu,hU,bl,hK⟩
       case measure=>go_light;simp[intOf]
theorem bK(w:World)(A:Option Addr)(n c:Nat)(ks:List Nat)(i:Int)(hn:ks.length=n)(hN:n<=9223372036854775807)(j: -9223372036854775808<=i)(y:i<=9223372036854775807)(z:∀x∈ks,x<4294967296)(ha:Row w w A n 1 (jZ .u32 ks)):
 Calls prog 275 #[.slice A n c,i] w (Iq ks i w):=by
 by_cases h:n>300∨i<1∨i>15
 ·exact iA w A n c ks i hn hN j y h
 ·obtain⟨L,rfl⟩:∃L:Nat,i=L:=⟨i.toNat,mw⟩;by_cases h1:2 ^ L<(wZ (kOf ks) n).length
  ·exact gN w A n c L ks hn mw mw mw h1 ha
  ·by_cases h2:(wZ (kOf ks) n).length<2
   ·exact fE w A n c L ks hn mw mw mw h2 ha
   ·exact kF w A n c L ks hn mw mw mw mw mw z ha
end Lens
end Go.Proofs.YtfgdoknipbpfhaaGreatDoor
