/- The walk of package  -/
import Derived.Test.YtfgdoknipbpfhaaGreatDoorZBodyBack17
import Derived.Test.YtfgdoknipbpfhaaGreatDoorZBodyBack3
namespace Go.Proofs.YtfgdoknipbpfhaaGreatDoor
open Go.Proofs.Tryz
open Go.Lib (hid)
set_option maxHeartbeats 4000000
set_option maxRecDepth 100000
variable{w w':World}{L R base c g k m n s t:Nat}{S ks l:List Nat}{i:Int}{A:Option Addr}{lf:Value}{vals:List Value}
namespace Lens
open Go.RowKit Mem Own Srt Canon
theorem PD(x:Nat)(w:World):Calls prog 362 #[.int .u32 x] w fun e w'=>e= .returned (.bool false)/\w=w':=by go_enter func362,ntmps362;go_wp2_with fail;go_ret;exact⟨rfl,rfl⟩
theorem Zm(a b:Nat)(w:World):Calls prog 348 #[.int .u32 a, .int .u32 b] w fun e w'=>e= .returned (.int .i64 (Fm a b))/\w=w':=by
 rcases Nat.lt_trichotomy a b with h|h|h
 ·have e:Fm a b= -1:=by unfold Fm;rw[Ab h]
  rw[e];clear e;go_enter func348,ntmps348;go_wp2_with(go_at_call 362;refine(PD _ _).mono ?_;rintro e w' ⟨rfl,rfl⟩);go_ret;exact⟨rfl,rfl⟩
 ·have e:Fm a b=0:=by unfold Fm;rw[Aa nj,Aa nj]
  rw[e];subst h;clear e;go_enter func348,ntmps348;go_wp2_with(go_at_call 362;refine(PD _ _).mono ?_;rintro e w' ⟨rfl,rfl⟩);go_ret;exact⟨rfl,rfl⟩
 ·have e:Fm a b=1:=by unfold Fm;rw[Aa nj,Ab h]
  rw[e];have h':¬a<b:=nj
  clear e;go_enter func348,ntmps348;go_wp2_with(go_at_call 362;refine(PD _ _).mono ?_;rintro e w' ⟨rfl,rfl⟩);go_ret;exact⟨rfl,rfl⟩
abbrev kOf(ks:List Nat):Nat->Nat:=fun s=>ks.getD s 0
theorem Zu(w:World)(Bo B n c x y:Nat)(A:Option Addr)(ks:List Nat)(hn:ks.length=n)(hx:x<n)(hy:y<n)(hb:w.cell? ⟨Bo,0,none⟩=some (.slice A n c))(ha:Row w B A n 1 (jZ .u32 ks)):
 Calls prog 347 #[x,y, .pointer (some ⟨Bo,0,none⟩)] w fun e w'=>e= .returned (.int .i64 (Fm (kOf ks x) (kOf ks y)))/\∃q,w'=w.drewN q:=by
 obtain⟨b,J,v1,rfl,G,i,c1⟩:=CH ha hn hx;obtain⟨b',E,v2,e2,z,j,c2⟩:=CH ha hn hy;injection e2 with e2;injection e2 with e3 e4;subst e3 e4;have k1:kOf ks x=v1:=by simp[kOf,List.getD_eq_getElem?_getD,i]
 have k2:kOf ks y=v2:=by simp[kOf,List.getD_eq_getElem?_getD,j]
 rw[k1,k2];have x1:(0:Int)<=(x:Int):=nj
 have x2:(x:Int)<(n:Int):=nj
 have x3:(0:Int)<=(y:Int):=nj
 have x4:(y:Int)<(n:Int):=nj
 clear k1 k2 i j hn ha;go_enter func347,ntmps347;go_wp2_with fail;go_quiet ((go_at_call 348;exact CT ((Zm _ _ _).mono (fun _ _ h=>⟨h.1,h.2.symm⟩))));go_wp2_with fail;go_ret;exact⟨rfl,_,rfl⟩
theorem eF:(prog.info? 3).map (fun i=>(i.zero,i.size,i.bytes))=some (some (.int .i64 0),1,8):=my
def Nu(ks:List Nat)(w:World)(e:Ending)(w':World):Prop:=
 ∃A c,e= .returned (.slice A (vZ (kOf ks) ks.length).length c)/\Row w' w' A (vZ (kOf ks) ks.length).length 1 (jZ .i64 (vZ (kOf ks) ks.length))/\Below w w w'
theorem Zb(h:w.ownsRow base 3 1 (.slice (some ⟨g,0,none⟩) n c) n (cZ .i64 l))(hl:l.length=n):Dat w g n (fun i=>l.getD i 0):=by
 rcases h.2 with ⟨hv,_⟩|⟨g',E,cur,hv,_,hh,y,_,z,j⟩
 ·cases hv
 ·injection hv with e1 e2 e3;injection e1 with e1;injection e1 with e1;subst e1;refine⟨cur,hh,nj,fun i hi=> ?_⟩;have h1:(cZ .i64 l)[i]? =some (.int .i64 (l.getD i 0:Nat)):=by rw[cZ,BI,Aw nj,Am,Aw nj];rfl
  rw[<-j,Gg]at h1;split at h1
  ·simpa using h1
  ·cases h1
theorem YT(l:List Nat):seg (fun i=>l.getD i 0) 0 l.length=l:=by refine List.ext_getElem (by rw[seg_length];rfl) fun i h1 h2=> ?_;rw[G7,BP,Am,Aw h2];rfl
theorem Y7{k f:Nat->Nat}(h:Sor k f 0 n):(seg f 0 n).Pairwise (Lt k):=by rw[List.pairwise_iff_getElem];intro i j hi hj y;rw[seg_length]at hj;rw[G7,G7,BP,BP];exact h i j (CA _) y nj
theorem eM{k f:Nat->Nat}(hd:Dat w g n f)(h:Ok k (fun i=>(used k m).getD i 0) f 0 n)(hn:(used k m).length=n):(vZ k m).length=n/\Row w w (some ⟨g,0,none⟩) n 1 (jZ .i64 (vZ k m)):=by
 have e:seg f 0 n=vZ k m:=Yt (Y7 h.1) (by have h2:=h.2;rw[<-hn,YT,hn]at h2;exact h2);have hl:(vZ k m).length=n:=by rw[<-e,seg_length];rfl
 refine⟨hl,fun _=>⟨g,0,rfl,hd.lt,fun i j hi hj=> ?_⟩⟩;obtain rfl:j=0:=nj
 rw[CO,Bi,BP,hd.cell hi];unfold jZ;rw[<-e,Am,Aw qv,G7,BP];rfl
theorem fJ{k:Nat->Nat}:∀i j,i<j->j<(used k m).length->(used k m).getD i 0<(used k m).getD j 0:=by intro i j y hj;have h:=List.pairwise_iff_getElem.1 (PH k m) i j nj hj y;rw[Am,Am,Aw nj,Aw hj];exact h
theorem X8{k:Nat->Nat}:All m (used k m).length (fun i=>(used k m).getD i 0):=fun i hi=>by show(used k m).getD i 0<m;rw[Am,Aw hi];exact(PJ.1 (FC hi)).1
theorem Px(w:World)(A:Option Addr)(n c:Nat)(ks:List Nat)(hn:ks.length=n)(hN:n<=100000)(ha:Row w w A n 1 (jZ .u32 ks)):
 Calls prog 314 #[.slice A n c] w (Nu ks w):=by
 obtain⟨j0,am,al,ah,an⟩:=info_parts eF;have HN:=hid hn;have HA:=hid ha;clear hn ha;go_enter func314,ntmps314;go_wp2_with fail;have U:Blk (w.alloc (.cells #[.slice A n c] 266)) w 266 #[.slice A n c]:=Blk.made _ _ _;have L:Below w w (w.alloc (.cells #[.slice A n c] 266)):=aZ (Ae _ _);go_loopw [3,8] (fun v i wr=>∃ (t q:Nat),t<=n/\q<=t/\i= .int .i64 t/\Hid ((used (kOf ks) t).length=q)/\wr.ownsRow (w.heap.size+1) 3 1 v q (cZ .i64 (used (kOf ks) t))/\Blk wr w 266 #[.slice A n c]/\Below w w wr) (fun _ i _=>n-(intOf i).toNat)
 case atStart=>exact⟨0,0,nj,nj,rfl,rfl,AE _ _ _ _,U,L⟩
 case round=>
  clear U L;obtain⟨t,q,ht,hq,rfl,E,z,bl,bel⟩:=hrel;have aq:=bl.lt;by_cases ar:t<n
  ·obtain⟨b,a0,x,rfl,az,hx,c0⟩:=CH (HA.out.below bel) HN.out ar;have ac:kOf ks t=x:=(by simp[kOf,List.getD_eq_getElem?_getD,hx]);have af:used (kOf ks) (t+1)=if x=0 then used (kOf ks) t else used (kOf ks) t++ [t]:=(by rw[used,ac]);have J:=hid af;have x0:(0:Int)<=(t:Int):=nj;have x1:(t:Int)<(n:Int):=nj;clear hx ac af;by_cases G:x=0
   ·have HU:Hid (used (kOf ks) (t+1)=used (kOf ks) t):=(by show _=_;rw[J.out,Ab G]);subst G;clear J;go_wp2_with fail;go_roundw
    case rel=>go_light;exact⟨t+1,q,nj,nj,jr,by show _=_;rw[HU.out];exact E.out,by rw[HU.out];exact z,bl,bel⟩
    case measure=>exact jq
   ·have HU:Hid (used (kOf ks) (t+1)=used (kOf ks) t++ [t]):=(by show _=_;rw[J.out,Aa G]);have xp:0<x:=nj;obtain⟨va,vc,rfl⟩:=bZ z;have HO:=hid z;have BL:=hid bl;have aj:=hid bel;have ag:=bel.size;clear J G z bel bl;go_wp2_with(at_builtin;refine iZ rfl (.tmp 15) (.tmp 17) 37 rfl (w.heap.size+1) 3 j0 _ 1 8 underlying37 am al ah an rfl ip _ _ _ nm (HO.out.alloc _) _ 1 1 [.int .i64 t] nm (Src.of_blk (Blk.made _ _ _) 1 1 1 rfl) mv rE nj rg ?_;intro v4 w4 Q ab av);go_roundw
    case measure=>exact jq
    case rel=>
     go_light;have hr:∀k,(Value.slice va q vc).ownBlock=some k->w.heap.size+1<=k:=fun k hk=>(Aj HO.out k hk).1;refine⟨t+1,q+1,nj,nj,jr,?_,?_,?_,?_⟩
     ·show _=_;rw[HU.out,Ag,E.out];rfl
     ·rw[HU.out,cZ,EW];exact Q
     ·exact(BL.out.alloc _).grown ab (fun h=>by have:=hr _ h.symm;omega)
     ·exact(mZ ag aj.out).grown ab rg (fun k hk=>by have:=hr k hk;omega)
  ·obtain rfl:t=n:=by omega
   have hz:=bel.size;have M:=bl.cell 0;rcases z.2 with ⟨rfl,ai⟩|⟨g,Y,cur,rfl,hg,hh,ax,aw,ak,N⟩
   ·subst ai;have e0:vZ (kOf ks) t= []:=GC (by rw[(JF _ _).length_eq];exact E.out);have E0:=hid e0;clear e0 z;go_wp2_with fail;refine(fY _ _).mono ?_;rintro e w5 ⟨rfl,rfl⟩;go_wp2_with fail;go_ret;refine⟨none,0,?_,?_,bel⟩
    ·rw[HN.out,E0.out];rfl
    ·rw[HN.out,E0.out];exact Row.zero
   ·have hd:Dat wr g q (fun i=>(used (kOf ks) t).getD i 0):=Zb z E.out;have Z:CmpOk w g t wr (kOf ks):=(by intro x y w2 hx hy hk;refine Zu w2 w w t c x y A ks HN.out hx hy ((World.cell?_of_block (a:=⟨w,0,none⟩) (hk.block _ ⟨aq,qS⟩)).trans M) ?_;exact(HA.out.below bel).keep fun p hp=>World.cell?_of_block (hk.block _ ⟨nj,nj⟩));have C:=iC wr w g q Y t (kOf ks) _ nj (fun i j h1 h2=>fJ i j h1 (by rw[E.out];exact h2)) (by have:=X8 (k:=kOf ks) (m:=t);rw[E.out]at this;exact this) hd Z;have ay:=hd.lt;have CC:=hid C;clear C Z hd hh ak N z;go_wp2_with fail;refine CC.out.mono ?_;rintro e w5 ⟨rfl,f',hp,aa⟩;obtain⟨hl,ae⟩:=eM hp.1 aa E.out;have HL:=hid hl;have au:Below w w w5:=bel.trans (hp.2.below (fun b hb=>⟨nj,nj⟩));clear hp aa hl;go_wp2_with fail;go_ret;refine⟨some ⟨g,0,none⟩,Y,?_,?_,au⟩
    ·rw[HN.out,HL.out];rfl
    ·rw[HN.out,HL.out];exact ae
end Lens
namespace Lens
open Srt Canon
def lenS(ks:List Nat)(L s:Nat):Nat:=
 if(vZ (kOf ks) ks.length).length<2 then if s∈vZ (kOf ks) ks.length then 1 else 0
 else B4 (kOf ks) (vZ (kOf ks) ks.length) (L-1) (2*(vZ (kOf ks) ks.length).length-2) s
theorem YA(ks:List Nat)(L:Nat):IR ks L=(List.range ks.length).map (lenS ks L):=by
 unfold IR;show(if(vZ (kOf ks) ks.length).length<2 then _ else _)=_;split
 ·rename_i h;refine Kz fun s _=> ?_;unfold lenS;rw[Ab h]
 ·rename_i h;refine Kz fun s _=> ?_;unfold lenS;rw[Aa h]
theorem ok_parts(h:Ep ks i=0):
 ks.length<=300/\∃L:Nat,i=L/\1<=L/\L<=15/\(vZ (kOf ks) ks.length).length<=2 ^ L/\Db ks i=(List.range ks.length).map (lenS ks L):=by
 have h0:=h;unfold Ep at h;split at h
 ·cases h
 ·rename_i h1;split at h
  ·cases h
  ·rename_i h2;obtain⟨L,rfl⟩:∃L:Nat,i=L:=⟨i.toNat,nj⟩;refine⟨nj,L,rfl,nj,nj,Nat.le_of_not_lt h2,?_⟩;unfold Db;rw[Ab h0,Bu,YA]
theorem Mr(h:Ep ks i=0):(Db ks i).length=ks.length:=by obtain⟨_,L,_,_,_,_,e⟩:=ok_parts h;rw[e];simp
theorem Rm(h:s ∉ vZ (kOf ks) ks.length):lenS ks L s=0:=by
 unfold lenS;split
 ·rfl
 ·exact aX _ _ _ h
theorem Q8{k f:Nat->Nat}(h:∀s,k s=0->f s=0):∀n,((List.range n).map f).sum=sm f (used k n)
 |0=>rfl
 |n+1=>by
  rw[GV,EW,N3,Q8 h n,used];split
  ·rename_i h0;simp[h n h0]
  ·rw[LQ];simp[sm]
theorem Wo{k f:Nat->Nat}(h:∀s,k s=0->f s=0)(n:Nat):((List.range n).map f).sum=sm f (vZ k n):=by rw[Q8 h n,bL (JF k n)]
theorem UV(h:kOf ks s=0):lenS ks L s=0:=Rm fun hs=>(Ko.1 hs).2 h
theorem LP(h1:1<=L)(h:(vZ (kOf ks) ks.length).length<=2 ^ L)(hs:s∈vZ (kOf ks) ks.length):1<=lenS ks L s/\lenS ks L s<=L:=by
 unfold lenS;split
 ·omega
 ·have h2:=(full (Jq (kOf ks) ks.length) nj h1 h).2 s hs;have h3:=Vx (k:=kOf ks) (S:=vZ (kOf ks) ks.length) (L-1) (2*(vZ (kOf ks) ks.length).length-2) s;omega
theorem dI(h1:1<=L)(h:(vZ (kOf ks) ks.length).length<=2 ^ L)(h2:2<=(vZ (kOf ks) ks.length).length):sm (fun s=>2 ^ (L-lenS ks L s)) (vZ (kOf ks) ks.length)=2 ^ L:=by have h3:=(full (Jq (kOf ks) ks.length) h2 h1 h).1;rw[<-h3];refine Io fun s _=> ?_;unfold lenS;rw[Aa nj]
theorem dL(h:Ep ks i=0):JY (Db ks i)=if(vZ (kOf ks) ks.length).length=0 then 0 else if(vZ (kOf ks) ks.length).length=1 then 16384 else 32768:=by
 obtain⟨hn,L,rfl,h1,h2,h3,e⟩:=ok_parts h;unfold JY;rw[e,List.map_map,Wo (k:=kOf ks) (fun s hs=>by simp[UV hs])];have e1:sm ((fun x=>if x=0 then 0 else 2 ^ (15-x)) ∘ lenS ks L) (vZ (kOf ks) ks.length)=sm (fun s=>2 ^ (15-lenS ks L s)) (vZ (kOf ks) ks.length):=Io fun s hs=>by have:=(LP h1 h3 hs).1;show(if lenS ks L s=0 then 0 else _)=_;rw[Aa nj]
 rw[e1];by_cases q0:(vZ (kOf ks) ks.length).length=0
 ·rw[Ab q0,GC q0];rfl
 ·rw[Aa q0];by_cases q1:(vZ (kOf ks) ks.length).length=1
  ·rw[Ab q1];have hx:∀s∈vZ (kOf ks) ks.length,2 ^ (15-lenS ks L s)=16384:=fun s hs=>by have:lenS ks L s=1:=(by unfold lenS;rw[Ab nj,Ab hs]);rw[this]
   rw[Io (g:=fun _=>16384) hx,J8,q1]
  ·rw[Aa q1];have hx:∀s∈vZ (kOf ks) ks.length,2 ^ (15-lenS ks L s)=2 ^ (15-L)*2 ^ (L-lenS ks L s):=fun s hs=>by have:=(LP h1 h3 hs).2;rw[<-Nat.pow_add];congr 1;omega
   rw[Io hx,YN,dI h1 h3 nj,<-Nat.pow_add,show 15-L+L=15 by omega]
theorem cD(h:Ep ks i=0):(Db ks i).countP (fun x=>decide (x≠0))=(vZ (kOf ks) ks.length).length:=by
 obtain⟨hn,L,rfl,h1,h2,h3,e⟩:=ok_parts h
 have j:∀n,((List.range n).map (lenS ks L)).countP (fun x=>decide (x≠0))=((List.range n).map fun s=>if lenS ks L s=0 then 0 else 1).sum:=by
  intro n
  induction n with
  |zero=>rfl
  |succ n ih=>rw[GV,EW,EW,List.countP_append,N3,ih];by_cases hz:lenS ks L n=0<;>simp[hz]
 rw[e,j,Wo (k:=kOf ks) (fun s hs=>by rw[Ab (UV hs)])];have hx:∀s∈vZ (kOf ks) ks.length,(if lenS ks L s=0 then 0 else 1)=1:=fun s hs=>by have:=(LP h1 h3 hs).1;rw[Aa nj]
 rw[Io (g:=fun _=>1) hx,J8,CO]
theorem bD{f:Nat->Nat}(h:s<n):((List.range n).map f).getD s 0=f s:=by rw[Am,BI,List.getElem?_range h];rfl
end Lens
namespace Lens
open Srt Canon
theorem Yg(hE:Ep ks 15=0)(hn:ks.length<=300):Dn (Db ks 15)=true:=by
 refine mC (by rw[Mr hE];exact hn) fun x hx=> ?_;obtain⟨_,L,hL,h1,h2,h3,e⟩:=ok_parts hE;rw[e]at hx;obtain⟨s,_,rfl⟩:=Co.1 hx;by_cases hm:s∈vZ (kOf ks) ks.length
 ·have:=(LP h1 h3 hm).2;omega
 ·rw[Rm hm];omega
theorem Pr(hE:Ep ks 15=0)(hn:ks.length<=300):okB (Db ks 15)=true:=by
 have hg:=Yg hE hn;have hu:=cD hE;have hk:=dL hE;have hc:=Y0 hg
 have h0:G5 (Db ks 15)=0:=by
  rw[hc,Ab];by_cases q0:(vZ (kOf ks) ks.length).length=0
  ·left;unfold Canon.used;rw[hu,q0]
  ·by_cases q1:(vZ (kOf ks) ks.length).length=1
   ·right;left
    refine⟨by unfold Canon.used;rw[hu,q1],?_⟩;have:cnt (Db ks 15) 1=(Db ks 15).countP (fun x=>decide (x≠0)):=(by unfold cnt;refine List.countP_congr fun x hx=> ?_;obtain⟨_,L,hL,h1,h2,h3,e⟩:=ok_parts hE;rw[e]at hx;obtain⟨s,_,rfl⟩:=Co.1 hx;have h:lenS ks L s<=1:=(by unfold lenS;rw[Ab nj];split<;>omega);simp;omega);rw[this,hu,q1]
   ·right;right
    rw[hk,Aa q0,Aa q1]
 unfold G5 at h0;split at h0
 ·assumption
 ·cases h0
end Lens
namespace Lens
open Go.RowKit Mem Own Srt Canon
def itL(X:List It):List Value:=X.flatMap fun x=> [.int .u64 (x.1:Nat), .bool (Cz x)]
def itF(X:List It):Nat->Nat->Value:=fun i j=>if j=0 then .int .u64 ((X.getD i (0,[])).1:Nat)else .bool (Cz (X.getD i (0,[])))
theorem Mc(a b:List It):itL (a++b)=itL a++itL b:=by simp[itL]
theorem UT(X:List It):(itL X).length=X.length*2:=by
 induction X with
 |nil=>rfl
 |cons x t ih=>simp only[itL,List.flatMap_cons,List.length_append,List.length_cons,List.length_nil]at ih ⊢;omega
theorem Nj:∀ (X:List It) (i j:Nat),i<X.length->j<2->(itL X)[i*2+j]? =some (itF X i j)
 | [],i,j,h,_=>qU
 |x :: t,0,j,_,hj=>by
  have:j=0∨j=1:=nj
  rcases this with rfl|rfl<;>simp[itL,itF]
 |x :: t,i+1,j,h,hj=>by have:=Nj t i j ru hj;rw[itL,Cu,show(i+1)*2+j=(i*2+j)+2 by omega,II qT];simpa[itF,itL]using this
def Its(X:List It)(t:Nat)(cs:Array Value):Prop:=cs.size=X.length*2/\∀i j,i<t->j<2->cs[i*2+j]? =some (itF X i j)
theorem Its.put{X:List It}{cs:Array Value}(h:Its X t cs)(ht:t<X.length){a b:Value}(ha:a=itF X t 0)(hb:b=itF X t 1):Its X (t+1) ((cs.setIfInBounds (t*2) a).setIfInBounds (t*2+1) b):=by
 refine⟨by simpa using h.1,fun i j hi hj=> ?_⟩;have hs:=h.1;rw[FQ,FQ];by_cases e1:t*2+1=i*2+j
 ·have:i=t:=by omega
  have y:j=1:=nj
  subst this y;rw[Ab rfl,Ab rg,hb]
 ·rw[Aa e1];by_cases e2:t*2=i*2+j
  ·have:i=t:=nj;have y:j=0:=nj;subst this y;rw[Ab nj,Ab nj,ha]
  ·rw[Aa e2];exact h.2 i j nj hj
theorem V8:(prog.info? 404).map (fun i=>(i.zero,i.size,i.bytes))=some (some (.agg #[.int .u64 0,false]),2,16):=my
theorem bW(n:Nat)(hn:n<=100000)(w:World):(Instr.makeSlice 399 (.int .i64 (n:Int)) (.int .i64 (n:Int))).run prog w=
 .ok (.slice (some ⟨w,0,none⟩) n n) (w.alloc (.cells (madeCells #[.int .u64 0,false] (n*2)) 404)):=by
 obtain⟨i0,hi,y,i,j⟩:=info_parts V8;have h:=run_make (P:=prog) w 399 404 i0 (.agg #[.int .u64 0,false]) underlying399 hi y .i64 .i64 (n:Int) (n:Int) nj (Int.le_refl _) qu nj;simp only[Int.toNat_natCast]at h;simpa[i,Value.cells]using h
def OwnIt(w:World)(base:Nat)(v:Value)(X:List It):Prop:=w.ownsRow base 404 2 v X.length (itL X)
theorem OwnIt.row{X:List It}(h:OwnIt w base (.slice A X.length c) X):Row w w A X.length 2 (itF X):=Row.of_own h rfl fun i j hi hj=>Nj X i j hi hj
theorem OwnIt.shape{v:Value}{X:List It}(h:OwnIt w base v X):∃A c,v= .slice A X.length c:=bZ h
def TH(X:List It)(w:World)(e:Ending)(w':World):Prop:=∃v,e= .returned v/\OwnIt w' w v X/\Below w w w'
theorem aH(w:World)(A B:Option Addr)(n c m d:Nat)(ks S:List Nat)(hn:ks.length=n)(hm:S.length=m)(hN:n<=100000)(hM:m<=n)(hS:∀s∈S,s<n)(y:∀x∈ks,x<4294967296)(ha:Row w w A n 1 (jZ .u32 ks))(hb:Row w w B m 1 (jZ .i64 S)):
 Calls prog 315 #[.slice A n c, .slice B m d] w (TH (lv (kOf ks) S) w):=by
 have HN:=hid hn;have HM:=hid hm;have HA:=hid ha;have HB:=hid hb;have HS:=hid hS;have L:=hid y;have aa:=bW m nj;clear hn hm ha hb hS y;go_enter func315,ntmps315;go_wp2_with fail;have z:Blk (w.alloc (.cells (madeCells #[.int .u64 0,false] (m*2)) 404)) w 404 _:=Blk.made _ _ _;have h:Below w w (w.alloc (.cells (madeCells #[.int .u64 0,false] (m*2)) 404)):=aZ (Ae _ _);have hI:Hid (Its (lv (kOf ks) S) 0 (madeCells #[.int .u64 0,false] (m*2))):=by refine⟨?_,fun i j hi _=>nj⟩;rw[GT,HM.out];simp[madeCells]
 go_loopw [13] (fun i wr=>∃ (t:Nat) (cs:Array Value),t<=m/\i= .int .i64 t/\Hid (Its (lv (kOf ks) S) t cs)/\Blk wr w 404 cs/\Below w w wr) (fun i _=>m-(intOf i).toNat)
 case atStart=>exact⟨0,_,nj,rfl,hI,z,h⟩
 case round=>
  clear z h hI;obtain⟨t,cs,ht,rfl,hI,bl,bel⟩:=hrel;by_cases G:t<m
  ·obtain⟨b,Y,s,rfl,U,hs,c0⟩:=CH (HB.out.below bel) HM.out G;obtain⟨b',Q,x,rfl,N,hx,c1⟩:=CH (HA.out.below bel) HN.out (HS.out s (Be hs));have Z:=HS.out s (Be hs);have x0:(0:Int)<=(t:Int):=nj;have x1:(t:Int)<(m:Int):=nj;have x2:(0:Int)<=(s:Int):=nj;have x3:(s:Int)<(n:Int):=nj;have f0:=bl.frozen (t*2);have f1:=bl.frozen (t*2+1);have J:cs.size=m*2:=(by have:=hI.out.1;rwa [GT,HM.out]at this);have d0:=bl.cell (t*2);have d1:=bl.cell (t*2+1);rw[KF nj]at d0 d1;generalize cs[t*2]' nj=o0 at d0;generalize cs[t*2+1]' nj=o1 at d1;have y:=L.out x (Be hx);have s1:IntKind.u64.wrap (x:Int)=(x:Int):=by rw[Bt];omega
   have E:Its (lv (kOf ks) S) (t+1) ((cs.setIfInBounds (t*2) (.int .u64 (x:Nat))).setIfInBounds (t*2+1) (.bool true)):=by
    have hg:(lv (kOf ks) S).getD t (0,[])=(x,[s]):=(by rw[Am,lv,BI,hs];simp[kOf,List.getD_eq_getElem?_getD,hx]);refine hI.out.put (by rw[GT,HM.out];exact G) ?_ ?_
    ·unfold itF;rw[Ab rfl,hg]
    ·unfold itF;rw[Aa nj,hg];rfl
   have M:=hid E;clear J E hs hx;go_wp2_with fail;go_roundw
   case rel=>go_light;exact⟨t+1,_,nj,jr,M,(bl.set _ _).set _ _,BF (p:=⟨w.heap.size,t*2+1,none⟩) (Ak _) (BF (p:=⟨w.heap.size,t*2,none⟩) (Ak _) bel)⟩
   case measure=>exact jq
  ·obtain rfl:t=m:=by omega
   go_wp2_with fail;go_ret;refine⟨_,rfl,?_,bel⟩;have e:(lv (kOf ks) S).length=t:=(by rw[GT,HM.out]);refine⟨?_, .inr ⟨w.heap.size,t,cs,by rw[e];rfl,Ak _,bl,by rw[e];exact Ak _,rE,by rw[hI.out.1,e],?_⟩⟩
   ·rw[UT]
   ·have hs:=hI.out.1;rw[e]at hs;refine List.ext_getElem? fun i=> ?_;rw[Gg];by_cases hi:i<(lv (kOf ks) S).length*2
    ·rw[Ab hi];have h1:=hI.out.2 (i / 2) (i % 2) (by rw[e]at hi;omega) nj;have h2:=Nj (lv (kOf ks) S) (i / 2) (i % 2) nj nj;rw[show i / 2*2+i % 2=i by omega]at h1 h2;rw[Array.getElem?_toList,h1,h2]
    ·rw[Aa hi,Fk];rw[UT];omega
theorem Ni{B:Nat}{X:List It}(h:Row w B A n 2 (itF X))(hn:X.length=n)(hk:k<n):
 ∃b i x,A=some ⟨b,i,none⟩/\b<B/\X[k]? =some x/\w.cell? ⟨b,i+k*2,none⟩=some (.int .u64 (x.1:Nat))/\w.cell? ⟨b,i+k*2+1,none⟩=some (.bool (Cz x)):=by
 obtain⟨b,i,e,hb,hc⟩:=h nj;have hl:k<X.length:=nj
 have h0:=hc k 0 hk nj;have h1:=hc k 1 hk nj;have hg:X.getD k (0,[])=X[k]:=by rw[Am,Aw hl];rfl
 rw[itF,Ab rfl,hg]at h0;rw[itF,Aa nj,hg]at h1;exact⟨b,i,X[k],e,hb,Aw hl,h0,h1⟩
def MAt(X Y:List It)(i k:Nat)(done:List It):Prop:=done++mrg (X.drop i) (Ec (Y.drop k))=mrg X (Ec Y)
theorem MAt.len{X Y:List It}{i:Nat}{done:List It}(h:MAt X Y i k done):done.length<=X.length+Y.length:=by have:=Az List.length h;rw[Ag,Mh,Mh,Kq,Kq]at this;omega
theorem drop_at{α:Type}{l:List α}{i:Nat}{x:α}(h:l[i]? =some x):l.drop i=x :: l.drop (i+1):=by obtain⟨hi,rfl⟩:=BW.1 h;exact Dg hi
theorem MAt.leaf{X Y:List It}{i:Nat}{done:List It}{x:It}(h:MAt X Y i k done)(hx:X[i]? =some x)(hc:Y.length<=k+1∨∃y z,Y[k]? =some y/\Y[k+1]? =some z/\x.1<=y.1+z.1):MAt X Y (i+1) k (done++ [x]):=by
 unfold MAt at h ⊢;rw[<-h,drop_at hx,AI];congr 1;rcases hc with hc|⟨y,z,hy,hz,j⟩
 ·rw[QV (l:=Y.drop k) oi,KJ,KJ];rfl
 ·rw[drop_at hy,drop_at hz,LU,Lc (by exact j)];rfl
theorem MAt.pair{X Y:List It}{i:Nat}{done:List It}{y z:It}(h:MAt X Y i k done)(hy:Y[k]? =some y)(hz:Y[k+1]? =some z)(hc:X.length<=i∨∃x,X[i]? =some x/\¬x.1<=y.1+z.1):MAt X Y i (k+2) (done++ [(y.1+z.1,y.2++z.2)]):=by
 unfold MAt at h ⊢;rw[<-h,drop_at hy,drop_at hz,LU,AI];congr 1;rcases hc with hc|⟨x,hx,j⟩
 ·rw[DV hc,J9,J9];rfl
 ·rw[drop_at hx,La (by exact j)];rfl
theorem MAt.done{X Y:List It}{i k:Nat}{done:List It}(h:MAt X Y i k done)(hi:X.length<=i)(hk:Y.length<=k+1):done=mrg X (Ec Y):=by unfold MAt at h;rw[DV hi,J9,QV oi,BX]at h;exact h
theorem aD{y z:It}(hy:y.2≠ [])(hz:z.2≠ []):Cz (y.1+z.1,y.2++z.2)=false:=by have h1:=FP.2 hy;have h2:=FP.2 hz;unfold Cz;rw[Ga,Ag];omega
theorem next_any(w:World)(A B:Option Addr)(n c m d M:Nat)(X Y:List It)(hn:X.length=n)(hm:Y.length=m)(hN:n<=1000)(hM:m<=1000)(hX:∀x∈X,Cz x=true)(hY:∀y∈Y,y.2≠ []/\y.1<=M)(bm:2*M<18446744073709551616)(ha:Row w w A n 2 (itF X))(hb:Row w w B m 2 (itF Y)):
 Calls prog 316 #[.slice A n c, .slice B m d] w (TH (mrg X (Ec Y)) w):=by
 have HN:=hid hn;have HM:=hid hm;have HA:=hid ha;have HB:=hid hb;have HX:=hid hX;have HY:=hid hY;obtain⟨j0,au,ar,ak,av⟩:=info_parts V8;obtain⟨h2,bg⟩:=ii (m / 2)
 have bf:∀w,(Instr.makeSlice 399 (.int .i64 (0:Int)) (.int .i64 ((n:Int)+(m:Int) / 2))).run prog w=
  .ok (.slice (some ⟨w,0,none⟩) 0 (n+h2)) (w.alloc (.cells (madeCells #[.int .u64 0,false] ((n+h2)*2)) 404)):=by
  intro w;have h:=run_make (P:=prog) w 399 404 j0 (.agg #[.int .u64 0,false]) underlying399 au ar .i64 .i64 0 ((n:Int)+(m:Int) / 2) nj nj (by rw[av];omega) nj;rw[show((n:Int)+(m:Int) / 2).toNat=n+h2 by omega]at h;simpa[ak,Value.cells]using h
 have bn:h2<=m:=nj
 clear hn hm ha hb hX hY bg;go_enter func316,ntmps316;go_wp2_with fail;have am:(w.alloc (.cells (madeCells #[.int .u64 0,false] ((n+h2)*2)) 404)).ownsRow w 404 2 (.slice (some ⟨w,0,none⟩) 0 (n+h2)) 0 (itL []):=World.ownsRow_made w _ _ (Ak _) rE (size_madeCells _ _);have az:Below w w (w.alloc (.cells (madeCells #[.int .u64 0,false] ((n+h2)*2)) 404)):=aZ (Ae _ _);go_loopw [5,6,7] (fun v iv kv wr=>∃ (i k q:Nat) (done:List It),i<=n/\k<=m/\q<=2001/\iv= .int .i64 i/\kv= .int .i64 k/\Hid (done.length=q)/\wr.ownsRow w 404 2 v q (itL done)/\Hid (MAt X Y i k done)/\Below w w wr) (fun _ i k _=>(n-(intOf i).toNat)+(m-(intOf k).toNat))
 case atStart=>exact⟨0,0,0,[],nj,nj,nj,rfl,rfl,rfl,am,rfl,az⟩
 case round=>
  clear az am bf;obtain⟨i,k,q,done,hi,hk,hq,rfl,rfl,ai,Q,an,bel⟩:=hrel;have aw:=bel.size;have bq:q<=n+m:=by have:=an.out.len;rw[ai.out,HN.out,HM.out]at this;exact this
  obtain⟨va,vc,rfl⟩:=bZ Q;have hr:Hid (∀k,(Value.slice va q vc).ownBlock=some k->w.heap.size<=k):=fun k hk=>(Aj Q k hk).1;have x0:(0:Int)<=(i:Int):=nj
  have z0:(0:Int)<=(k:Int):=nj
  by_cases bC:k+1<m
  ·obtain⟨b,bu,y,rfl,bp,hy,c0,_⟩:=Ni (HB.out.below bel) HM.out (k:=k) nj;obtain⟨b',bj,z,e2,bk,hz,c1,_⟩:=Ni (HB.out.below bel) HM.out (k:=k+1) nj;injection e2 with e2;injection e2 with e3 e4;subst e3 e4;have a5:=HY.out y (Be hy);have a6:=HY.out z (Be hz);have ax:=aD a5.1 a6.1;have Z:=an.out.pair hy hz;have U:=fun x hx a4=>an.out.leaf (x:=x) hx (.inr ⟨y,z,hy,hz,a4⟩);have bb:=a5.2;have ba:=a6.2;obtain⟨ya,ys⟩:=y;obtain⟨za,zs⟩:=z;simp only at c0 c1 ax Z U bb ba;obtain⟨ww,a9⟩:=ii (ya+za);rw[<-a9]at ax Z U;have al:=hid Z;have af:=hid U;have bc:=hid ax;have E:Hid ((ya:Int)+(za:Int)=(ww:Int)):=qJ;have s3:IntKind.u64.wrap ((ya:Int)+(za:Int))=(ya:Int)+(za:Int):=pk;have s1:IntKind.i64.wrap ((k:Int)+1)=(k:Int)+1:=Ar _ nj;have z1:(k:Int)<(m:Int):=nj;have z2:(0:Int)<=(k:Int)+1:=nj;have z3:(k:Int)+1<(m:Int):=nj;have z5:((k:Int)+1).toNat=k+1:=nj;have aq:Hid (((k:Int)+1).toNat=k+1/\IntKind.i64.wrap ((k:Int)+1)=(k:Int)+1/\IntKind.u64.wrap ((ya:Int)+(za:Int))=(ya:Int)+(za:Int)):=⟨z5,s1,s3⟩;have HO:=hid Q;have ab:=hid bel;clear hy hz a5 a6 ax Z U a9 s1 s3 z5 Q bel;by_cases a0:i<n
   ·obtain⟨b2,ah,x,rfl,bd,hx,d0,d1⟩:=Ni (HA.out.below ab.out) HN.out a0;obtain⟨xa,xs⟩:=x;simp only at d0;have x1:(i:Int)<(n:Int):=nj;have a3:=hid hx;obtain⟨lb,ac⟩:=ii (Cz (xa,xs));rw[<-ac]at d1;have a1:=hid ac;clear hx ac;by_cases a4:xa<=ww
    ·go_wp2_with fail;obtain⟨z5,s1,s3⟩:=aq.out;go_quiet (fail);clear z5 s1 s3;rw[E.out];have G:(wr.drewN nq).ownsRow w 404 2 (.slice va q vc) q (itL done):=eZ HO.out (fun _ _=>rfl);have J:Below w w (wr.drewN nq):=below_drewN ab.out nq;have bh:(wr.drewN nq).cell? ⟨b2,ah+i*2,none⟩=some (.int .u64 (xa:Nat)):=d0;have bt:(wr.drewN nq).cell? ⟨b2,ah+i*2+1,none⟩=some (.bool lb):=d1;have N:w.heap.size<=(wr.drewN nq).heap.size:=aw;generalize wr.drewN nq=wq at *;have aa:=hid G;have L:=hid J;clear G J d0 d1 c0 c1 HO ab;go_wp2_with(at_builtin;refine iZ rfl (.tmp 66) (.tmp 71) 399 rfl w 404 j0 _ 2 16 underlying399 au ar ak av rfl ip _ _ _ nm (aa.out.alloc _) _ 1 1 [.int .u64 (xa:Nat), .bool lb] nm (Src.of_blk (Blk.made _ _ _) 1 1 2 rfl) mr rE nj rg ?_;intro v4 w4 j ag aj);go_roundw
     case measure=>exact jq
     case rel=>
      go_light;refine⟨i+1,k,q+1,done++ [(xa,xs)],nj,nj,nj,jr,rfl,?_,?_,af.out _ a3.out a4,(mZ N L.out).grown ag rg (fun k hk=>hr.out k hk)⟩
      ·show _=_;rw[Ag,ai.out];rfl
      ·rw[Mc];rw[a1.out]at j;exact j
    ·have bl:ww<xa:=nj;go_wp2_with fail;obtain⟨z5,s1,s3⟩:=aq.out;go_quiet (fail);clear z5 s1 s3;rw[E.out];have G:(wr.drewN nq).ownsRow w 404 2 (.slice va q vc) q (itL done):=eZ HO.out (fun _ _=>rfl);have J:Below w w (wr.drewN nq):=below_drewN ab.out nq;have N:w.heap.size<=(wr.drewN nq).heap.size:=aw;have bh:(wr.drewN nq).cell? ⟨b2,ah+i*2,none⟩=some (.int .u64 (xa:Nat)):=d0;clear d0 d1;generalize wr.drewN nq=wq at *;have aa:=hid G;have L:=hid J;clear G J c0 c1 HO ab;go_wp2_with(at_builtin;refine iZ rfl (.tmp 75) (.tmp 78) 399 rfl w 404 j0 _ 2 16 underlying399 au ar ak av rfl ip _ _ _ nm (aa.out.alloc _) _ 1 1 [.int .u64 (ww:Nat), .bool false] nm (Src.of_blk (Blk.made _ _ _) 1 1 2 rfl) mr rE nj rg ?_;intro v4 w4 j ag aj);go_roundw
     case measure=>exact jq
     case rel=>
      go_light;refine⟨i,k+2,q+1,done++ [(ww,ys++zs)],nj,nj,nj,rfl,jr,?_,?_,al.out (.inr ⟨_,a3.out,nj⟩),(mZ N L.out).grown ag rg (fun k hk=>hr.out k hk)⟩
      ·show _=_;rw[Ag,ai.out];rfl
      ·rw[Mc];rw[<-bc.out]at j;exact j
   ·go_wp2_with fail;obtain⟨z5,s1,s3⟩:=aq.out;go_quiet (fail);clear z5 s1 s3;rw[E.out];have G:(wr.drewN nq).ownsRow w 404 2 (.slice va q vc) q (itL done):=eZ HO.out (fun _ _=>rfl);have J:Below w w (wr.drewN nq):=below_drewN ab.out nq;have N:w.heap.size<=(wr.drewN nq).heap.size:=aw;generalize wr.drewN nq=wq at *;have aa:=hid G;have L:=hid J;clear G J c0 c1 HO ab;go_wp2_with(at_builtin;refine iZ rfl (.tmp 75) (.tmp 78) 399 rfl w 404 j0 _ 2 16 underlying399 au ar ak av rfl ip _ _ _ nm (aa.out.alloc _) _ 1 1 [.int .u64 (ww:Nat), .bool false] nm (Src.of_blk (Blk.made _ _ _) 1 1 2 rfl) mr rE nj rg ?_;intro v4 w4 j ag aj);go_roundw
    case measure=>exact jq
    case rel=>
     go_light;refine⟨i,k+2,q+1,done++ [(ww,ys++zs)],nj,nj,nj,rfl,jr,?_,?_,al.out (.inl px),(mZ N L.out).grown ag rg (fun k hk=>hr.out k hk)⟩
     ·show _=_;rw[Ag,ai.out];rfl
     ·rw[Mc];rw[<-bc.out]at j;exact j
  ·have be:m<=k+1:=nj;by_cases a0:i<n
   ·obtain⟨b2,ah,x,rfl,bd,hx,d0,d1⟩:=Ni (HA.out.below bel) HN.out a0;obtain⟨xa,xs⟩:=x;simp only at d0;have x1:(i:Int)<(n:Int):=nj;have a3:=hid hx;obtain⟨lb,ac⟩:=ii (Cz (xa,xs));rw[<-ac]at d1;have a1:=hid ac;have af:=hid (an.out.leaf (x:=(xa,xs)) hx (.inl (by rw[HM.out];exact be)));have aa:=hid Q;have L:=hid bel;have N:=aw;clear hx ac Q bel;go_wp2_with(at_builtin;refine iZ rfl (.tmp 32) (.tmp 37) 399 rfl w 404 j0 _ 2 16 underlying399 au ar ak av rfl ip _ _ _ nm (aa.out.alloc _) _ 1 1 [.int .u64 (xa:Nat), .bool lb] nm (Src.of_blk (Blk.made _ _ _) 1 1 2 rfl) mr rE nj rg ?_;intro v4 w4 j ag aj);go_roundw
    case measure=>exact jq
    case rel=>
     go_light;refine⟨i+1,k,q+1,done++ [(xa,xs)],nj,nj,nj,jr,rfl,?_,?_,af.out,(mZ N L.out).grown ag rg (fun k hk=>hr.out k hk)⟩
     ·show _=_;rw[Ag,ai.out];rfl
     ·rw[Mc];rw[a1.out]at j;exact j
   ·have ae:=an.out.done px (by rw[HM.out];exact be);have ay:(mrg X (Ec Y)).length=q:=(by rw[<-ae];exact ai.out);have HD:=hid ae;have bi:=hid ay;clear ae ay;go_wp2_with fail;go_ret;refine⟨_,rfl,?_,bel⟩;show World.ownsRow _ _ _ _ _ _ _;rw[bi.out,<-HD.out];exact Q
end Lens
namespace Lens
open Go.RowKit Mem Own Srt Canon
def I2(ks:List Nat)(limit:Int)(w:World)(e:Ending)(w':World):Prop:=
 ∃A c,e= .returned (.tuple #[.slice A (Db ks limit).length c, .int .i64 (Ep ks limit)])/\Row w' w' A (Db ks limit).length 1 (jZ .u8 (Db ks limit))/\Wf A (Db ks limit).length c/\Below w w w'/\(0<(Db ks limit).length->∀p,A=some p->w.heap.size<=p.block)
theorem No{e:Ending}{x:Int}(hx:x≠0)(h:Ep ks i=x)(he:e= .returned (.tuple #[(),x]))(hb:Below w w w'):I2 ks i w e w':=by
 have h0:Db ks i= []:=by unfold Db;rw[Aa (by rw[h];exact hx)]
 refine⟨none,0,?_,?_,?_,hb,fun _ p hp=>by cases hp⟩
 ·rw[he,h0,h];rfl
 ·rw[h0];exact Row.zero
 ·rw[h0];exact Wf.nil
theorem XS(w:World)(A:Option Addr)(n c:Nat)(ks:List Nat)(i:Int)(hn:ks.length=n)(hN:n<=9223372036854775807)(y: -9223372036854775808<=i)(j:i<=9223372036854775807)(h:n>300∨i<1∨i>15):
 Calls prog 275 #[.slice A n c,i] w (I2 ks i w):=by
 have hE:Hid (Ep ks i=13):=by show _=_;unfold Ep;rw[hn,Ab h]
 clear hn;by_cases h1:300<n
 ·clear h;go_enter func275,ntmps275;go_wp2_with fail;go_ret2;exact No ip hE.out rfl (Ae _ _)
 ·have g1:=ig ((300:Int)<n)
  have g2:=ig (300<n)
  by_cases h2:i<1
  ·clear h;have g3:decide (i<1)=true:=ry;go_enter func275,ntmps275;go_wp2_with fail;go_ret2;exact No ip hE.out rfl (Ae _ _)
  ·have h3:15<i:=nj;have g3:=ig (i<1);have g4:decide (15<i)=true:=(by simpa using h3);clear h;go_enter func275,ntmps275;go_wp2_with fail;go_ret2;exact No ip hE.out rfl (Ae _ _)
theorem Pj(h:L<=15):wrap64 ((2:Int) ^ L)=((2 ^ L:Nat):Int):=by
 have h1:2 ^ L<=2 ^ 15:=Cn nj h;have e:(2:Int) ^ L=((2 ^ L:Nat):Int):=qT
 rw[e];generalize 2 ^ L=p at *;have h2:p<=32768:=h1;unfold wrap64;omega
theorem ZX(w:World)(A:Option Addr)(n c L:Nat)(ks:List Nat)(hn:ks.length=n)(hN:n<=300)(z:1<=L)(j:L<=15)(h:2 ^ L<(vZ (kOf ks) n).length)(ha:Row w w A n 1 (jZ .u32 ks)):
 Calls prog 275 #[.slice A n c,L] w (I2 ks L w):=by
 have hE:Hid (Ep ks L=6):=by show _=_;unfold Ep;rw[Aa nj,Ab];rw[hn];exact h
 have C:=Px w A n c ks hn nj ha;unfold Nu at C;have HN:=hid hn;rw[hn]at C;have C:=hid C;have g1:=ig ((300:Int)<n)
 have g2:=ig (300<n)
 have g3:=ig ((L:Int)<1)
 have g4:=ig ((15:Int)<L)
 have g5:=ig (L<1)
 have g6:=ig (15<L)
 clear ha hn;have t1:decide (wrap64 ((2:Int) ^ L)<((vZ (kOf ks) n).length:Int))=true:=by rw[Pj j];exact AK (Int.ofNat_lt.2 h)
 generalize vZ (kOf ks) n=S at *;go_enter func275,ntmps275;go_wp2_with fail;refine C.out.mono ?_;rintro e w1 ⟨A1,c1,rfl,y,i⟩;go_wp2_with fail;go_ret2;exact No ip hE.out rfl i
theorem Xt:(prog.info? 5).map (fun i=>(i.zero,i.size,i.bytes))=some (some (.int .u8 0),1,1):=my
theorem make_u8(n:Nat)(hn:n<=8388608)(w:World):(Instr.makeSlice 28 (.int .i64 (n:Int)) (.int .i64 (n:Int))).run prog w=
 .ok (.slice (some ⟨w,0,none⟩) n n) (w.alloc (.cells (madeCells #[.int .u8 0] n) 5)):=by
 obtain⟨i0,hi,y,i,j⟩:=info_parts Xt;have h:=run_make (P:=prog) w 28 5 i0 (.int .u8 0) underlying28 hi y .i64 .i64 (n:Int) (n:Int) nj (Int.le_refl _) qu nj;simp only[Int.toNat_natCast]at h;simpa[i,Value.cells]using h
def U8s(f:Nat->Nat)(n:Nat)(cs:Array Value):Prop:=cs.size=n/\∀i,i<n->cs[i]? =some (.int .u8 (f i:Nat))
theorem U8s.made(n:Nat):U8s (fun _=>0) n (madeCells #[.int .u8 0] n):=nk
theorem U8s.set{f g:Nat->Nat}{cs:Array Value}(h:U8s f n cs){i v:Nat}(hv:g i=v)(ho:∀j,j≠i->g j=f j):U8s g n (cs.setIfInBounds i (.int .u8 (v:Nat))):=by
 refine⟨by simpa using h.1,fun j hj=> ?_⟩;have hs:=h.1;rw[FQ];by_cases e:i=j
 ·subst e;rw[Ab rfl,Ab nj,hv]
 ·rw[Aa e,h.2 j hj,ho j (AZ e)]
theorem U8s.row{f:Nat->Nat}{cs:Array Value}(h:U8s f n cs)(hb:Blk w g 5 cs)(hl:l=(List.range n).map f):Row w w (some ⟨g,0,none⟩) n 1 (jZ .u8 l):=by
 subst hl;refine Row.of_blk hb hb.lt fun i j hi hj=> ?_;obtain rfl:j=0:=nj
 rw[CO,Bi,h.2 i hi];unfold jZ;rw[Am,BI,List.getElem?_range hi];rfl
theorem OF{e:Ending}{f:Nat->Nat}{cs:Array Value}(hE:Ep ks i=0)(hl:IR ks i.toNat=(List.range n).map f)
 (h:U8s f n cs)(hb:Blk w' g 5 cs)(he:e= .returned (.tuple #[.slice (some ⟨g,0,none⟩) n n,ij]))(y:Below w w w')(hg:w.heap.size<=g):I2 ks i w e w':=by
 have h0:Db ks i=(List.range n).map f:=by unfold Db;rw[Ab hE,hl]
 have j:(Db ks i).length=n:=by rw[h0];simp
 refine⟨some ⟨g,0,none⟩,n,?_,?_,?_,y,fun _ p hp=>by cases hp;exact hg⟩
 ·rw[he,hE,j]
 ·rw[j];exact h.row hb h0
 ·rw[j];exact Wf.some (Ak _)
theorem W7(w:World)(A:Option Addr)(n c L:Nat)(ks:List Nat)(hn:ks.length=n)(hN:n<=300)(M:1<=L)(G:L<=15)(h:(vZ (kOf ks) n).length<2)(ha:Row w w A n 1 (jZ .u32 ks)):
 Calls prog 275 #[.slice A n c,L] w (I2 ks L w):=by
 have Q:2<=2 ^ L:=by have:=Cn (n:=2) nj M;simpa using this
 have hE:Hid (Ep ks L=0):=qO
 have C:=Px w A n c ks hn nj ha;unfold Nu at C;have HN:=hid hn;rw[hn]at C;have C:=hid C;have g1:=ig ((300:Int)<n)
 have g2:=ig (300<n)
 have g3:=ig ((L:Int)<1)
 have g4:=ig ((15:Int)<L)
 have g5:=ig (L<1)
 have g6:=ig (15<L)
 have t1:decide (wrap64 ((2:Int) ^ L)<((vZ (kOf ks) n).length:Int))=false:=by rw[Pj G];exact AU (by rw[Int.ofNat_lt];omega)
 have hV:Hid (IR ks L=(List.range n).map fun s=>if s∈vZ (kOf ks) n then 1 else 0):=by show _=_;unfold IR;rw[hn];show(if(vZ (kOf ks) n).length<2 then _ else _)=_;rw[Ab h]
 have HS:Hid (∀s∈vZ (kOf ks) n,s<n):=fun s hs=>(Ko.1 hs).1;have Y:=make_u8 n nj;clear ha hn;generalize vZ (kOf ks) n=S at *;have h2:S.length=0∨S.length=1:=nj
 rcases h2 with h2|h2
 ·obtain rfl:S= []:=GC h2;clear h2 h;simp only[List.length_nil]at C;have t2:decide (wrap64 ((2:Int) ^ L)<0)=false:=t1;clear t1;go_enter func275,ntmps275;go_wp2_with fail;refine C.out.mono ?_;rintro e w1 ⟨A1,c1,rfl,z,y⟩;go_wp2_with fail;go_ret2;refine OF hE.out (by rw[Bu,hV.out]) (cs:=madeCells #[.int .u8 0] n) ?_ (Blk.made _ _ _) rfl (mZ y.size y) y.size;have:=U8s.made n;simpa using this
 ·obtain⟨s,rfl⟩:∃s,S= [s]:=List.length_eq_one_iff.1 h2;clear h2 h;simp only[List.length_cons,List.length_nil,Nat.zero_add]at C;have t2:decide (wrap64 ((2:Int) ^ L)<1)=false:=t1;clear t1;have hs:=HS.out s qT;go_enter func275,ntmps275;go_wp2_with fail;refine C.out.mono ?_;rintro e w1 ⟨A1,c1,rfl,z,y⟩;obtain⟨b,U,x,rfl,N,hx,c0⟩:=CH z qT (i:=0) nj;simp at hx;subst hx;have E:=y.size;have bl:=Blk.made w1 5 (madeCells #[.int .u8 0] n);have hU:=U8s.made n;have d0:=bl.cell s;rw[hU.2 s hs]at d0;have f0:=bl.frozen s;have HU:Hid (U8s (fun i=>if i∈ [s]then 1 else 0) n ((madeCells #[.int .u8 0] n).setIfInBounds s (.int .u8 1))):=hU.set (v:=1) qT (fun j hj=>by simp[hj]);have J:=y;clear hU;have x2:(0:Int)<=(s:Int):=by omega
  have x3:(s:Int)<(n:Int):=nj
  rw[Bi]at c0;go_wp2_with fail;go_ret2;exact OF hE.out (by rw[Bu,hV.out]) HU.out (Blk.made _ _ _) rfl (mZ E J) E
def RowsAt(w:World)(base:Nat)(k:Nat->Nat)(S:List Nat)(lf v:Value)(vals:List Value):Prop:=
 OwnIt w base lf (lv k S)/\w.ownsRow base 399 1 v vals.length vals/\∀i x,vals[i]? =some x->OwnIt w base x (rowN (lv k S) i)
theorem OwnIt.kept{v:Value}{X:List It}(h:OwnIt w base v X)(hk:∀g,v.ownBlock=some g->w'.heap[g]? =w.heap[g]?):OwnIt w' base v X:=eZ h hk
theorem RowsAt.kept{k:Nat->Nat}{v:Value}(h:RowsAt w base k S lf v vals)(hk:∀g,base<=g->g<w.heap.size->w'.heap[g]? =w.heap[g]?):RowsAt w' base k S lf v vals:=by
 obtain⟨h1,h2,h3⟩:=h;refine⟨h1.kept (fun g hg=> ?_),eZ h2 (fun g hg=> ?_),fun i x hx=>(h3 i x hx).kept (fun g hg=> ?_)⟩
 ·have:=Aj h1 g hg;exact hk g this.1 this.2
 ·have:=Aj h2 g hg;exact hk g this.1 this.2
 ·have:=Aj (h3 i x hx) g hg;exact hk g this.1 this.2
theorem RowsAt.push{k:Nat->Nat}{v v' x:Value}(h:RowsAt w base k S lf v vals)(hx:OwnIt w base x (rowN (lv k S) vals.length))
 (ho:w'.ownsRow base 399 1 v' (vals.length+1) (vals++ [x]))(hg:w.grownBy w' v.ownBlock):RowsAt w' base k S lf v' (vals++ [x]):=by
 obtain⟨h1,h2,h3⟩:=h
 have keep:∀ (y:Value) (X:List It),OwnIt w base y X->OwnIt w' base y X:=fun y X hy=>hy.kept fun g hgy=>by
  refine hg.block g (Aj hy g hgy).2 ?_;rcases EY hy h2 ip with h0|h0
  ·rw[h0]at hgy;cases hgy
  ·rw[<-hgy];exact h0
 refine⟨keep _ _ h1,by simpa using ho,fun i y hy=> ?_⟩;rw[List.getElem?_append]at hy;split at hy
 ·exact keep y _ (h3 i y hy)
 ·have hi:i-vals.length< [x].length:=(BW.1 hy).1;have hm:=Be hy;simp at hm hi;subst hm;have:i=vals.length:=by omega
  rw[this];exact keep y _ hx
theorem RowsAt.at_{k:Nat->Nat}{v:Value}(h:RowsAt w base k S lf v vals){i:Nat}(hi:i<vals.length):
 ∃g j A c,v= .slice (some ⟨g,0,none⟩) vals.length j/\base<=g/\g<w.heap.size/\w.cell? ⟨g,i,none⟩=some (.slice A (rowN (lv k S) i).length c)/\OwnIt w base (.slice A (rowN (lv k S) i).length c) (rowN (lv k S) i):=by
 obtain⟨h1,h2,h3⟩:=h;have hv:vals[i]? =some vals[i]:=Aw hi;have ho:=h3 i _ hv;obtain⟨A,c,hs⟩:=ho.shape;rcases h2.2 with ⟨_,h0⟩|⟨g,j,cur,z,hb,hh,G,E,J,y⟩
 ·omega
 ·refine⟨g,j,A,c,z,hb,Blk.lt hh,?_,by rw[hs]at ho;exact ho⟩;have h4:vals[i]? =cur[i]? :=by have h5:(cur.toList.take (vals.length*1))[i]? =vals[i]? :=(by rw[y]);rw[<-h5,Gg,Ab nj];simp
  rw[Blk.cell (t:=399) hh,<-h4,hv,hs]
theorem OwnIt.cells{X:List It}(h:OwnIt w base (.slice A X.length c) X)(h0:0<X.length):
 ∃g,A=some ⟨g,0,none⟩/\base<=g/\g<w.heap.size/\X.length<=c/\c<=maxLen/\∀i x,X[i]? =some x->w.cell? ⟨g,i*2,none⟩=some (.int .u64 (x.1:Nat))/\w.cell? ⟨g,i*2+1,none⟩=some (.bool (Cz x)):=by
 rcases h.2 with ⟨_,h1⟩|⟨g,J,cur,hv,hb,hh,G,z,L,y⟩
 ·omega
 ·injection hv with e1 e2 e3;subst e1 e3;refine⟨g,rfl,hb,Blk.lt hh,G,z,fun i x hx=> ?_⟩;have hi:i<X.length:=(BW.1 hx).1;have hg:X.getD i (0,[])=x:=by rw[Am,hx];rfl
  have E:∀j,j<2->w.cell? ⟨g,i*2+j,none⟩=some (itF X i j):=fun j hj=>by rw[Blk.cell (t:=404) hh,<-Nj X i j hi hj,<-y,Gg,Ab nj];simp
  have k0:=E 0 nj;have k1:=E 1 nj;rw[itF,Ab rfl,hg]at k0;rw[itF,Aa nj,hg]at k1;exact⟨k0,k1⟩
def JI(k:Nat->Nat)(S:List Nat):Nat->Nat->Nat->Nat
 |0,_,_=>0
 |R+1,t,s=>B4 k S R t s
def N7(k:Nat->Nat)(S:List Nat)(R t:Nat):Prop:=R=0∨t<=(rowN (lv k S) (R-1)).length
theorem ZD{k:Nat->Nat}(R t s:Nat)(ht:t<=(rowN (lv k S) R).length):
 JI k S (R+1) t s=(if s∈S.take (nl (rowN (lv k S) R) t)then 1 else 0)+JI k S R (2*(t-nl (rowN (lv k S) R) t)) s/\N7 k S R (2*(t-nl (rowN (lv k S) R) t)):=by
 rcases R with _|R
 ·exact⟨rfl, .inl rfl⟩
 ·obtain⟨n,q,h1,h2,h3,h4,_⟩:=row_take R t ht;refine⟨rfl, .inr ?_⟩;rw[h4,Nat.add_sub_cancel];rw[show t-n=q by omega];exact h3
def Nd(k:Nat->Nat)(S:List Nat)(L:Nat)(R t:Nat)(f:Nat->Nat):Prop:=∀s,B4 k S (L-1) (2*S.length-2) s=f s+JI k S R t s
def InAt(S:List Nat)(f0 f:Nat->Nat)(m:Nat):Prop:=∀s,f s=f0 s+if s∈S.take m then 1 else 0
theorem InAt.step{f0 f:Nat->Nat}(hS:S.Nodup)(h:InAt S f0 f m)(hs:S[m]? =some s):InAt S f0 (fun j=>if j=s then f s+1 else f j) (m+1)/\f s=f0 s:=by
 have y:m<S.length:=(BW.1 hs).1;have i:S.take (m+1)=S.take m++ [s]:=by rw[BN,hs];rfl
 have hn:s ∉ S.take m:=by intro hm;have h2:=hS.sublist (List.take_sublist (m+1) S);rw[i,List.nodup_append]at h2;exact h2.2.2 s hm s qT rfl
 have h1:=h s;rw[Aa hn]at h1;refine⟨fun j=> ?_,nj⟩;show(if j=s then f s+1 else f j)=_;rw[i];by_cases e:j=s
 ·subst e;rw[Ab rfl,Ab qT];omega
 ·rw[Aa e,h j];simp[e]
theorem Ys(X:List It)(i:Nat):nl X i<=i:=by unfold nl;have:=List.countP_le_length (p:=Cz) (l:=X.take i);rw[Ba]at this;omega
theorem run_head{P:Program}{t e:TypeId}(ht:P.underlying t=some (.slice e))(hs:∀w,(sizeOf e).run P w= .ok s w)(A:Option Addr)(len i:Nat)(kh:IntKind)(h:Int)(m:Nat)(hh:h=m)(hm:m<=i)(w:World):
 (Instr.slice t (.slice A len i) none (some (.int kh h)) none).run P w= .ok (.slice (AR A 0 i s) m i) w:=by
 subst hh;have he:P.elem t=e:=ri
 rw[run_slice_h w t A len i qp kh (m:Int) nj nj,he,hs];rfl
end Lens
namespace Lens
open Go.RowKit Mem Own Srt Canon
theorem ZT:(prog.info? 399).map (fun i=>(i.zero,i.size,i.bytes))=some (some (.slice none 0 0),1,24):=my
def lenOf:Value->Nat
 | .slice _ n _=>n
 |_=>0
structure Syms (ks:List Nat) (n:Nat) (S:List Nat):Prop where
 sorted:S.Pairwise (Lt (kOf ks))
 nodup:S.Nodup
 below:∀s∈S,s<n
 small:∀s∈S,kOf ks s<=4294967295
 two:2<=S.length
 few:S.length<=300
 le:S.length<=n
theorem OS(h:Syms ks n S){r:Nat}(hr:r<=14):(∀y∈rowN (lv (kOf ks) S) r,y.2≠ []/\y.1<=70368744161280)/\S.length<=(rowN (lv (kOf ks) S) r).length/\(rowN (lv (kOf ks) S) r).length<=2*S.length:=by
 have h2:=h.two;refine⟨fun y hy=>⟨PW r y hy,?_⟩,?_,?_⟩
 ·have h1:=Qq h.small r y hy;have h3:2 ^ r<=2 ^ 14:=Cn nj hr;have h4:2 ^ r*4294967295<=2 ^ 14*4294967295:=GA _ h3;omega
 ·rcases r with _|r
  ·rw[Ll];exact Ak _
  ·rw[OP];omega
 ·have h3:=Qx (k:=kOf ks) (S:=S) nj r;generalize (S.length-1) / 2 ^ r=d at h3;omega
theorem pS(h:Syms ks n S)(hR:R<=14)(ht:t<=(rowN (lv (kOf ks) S) R).length):t-nl (rowN (lv (kOf ks) S) R) t<=S.length:=by
 rcases R with _|R
 ·rw[Ll]at ht;rw[Nt t ht];omega
 ·obtain⟨n',q,h1,h2,h3,h4,_⟩:=row_take R t ht;have h5:=(OS h (r:=R) nj).2.2;rw[h4];omega
theorem oW{k:Nat->Nat}{f:Nat->Nat}(h:Nd k S L R t f)(hL:1<=L)(s:Nat):f s<=L:=by have h1:=h s;have h2:=Vx (k:=k) (S:=S) (L-1) (2*S.length-2) s;omega
theorem Zz(w:World)(A:Option Addr)(n c L:Nat)(ks:List Nat)(hn:ks.length=n)(hN:n<=300)(a9:1<=L)(cC:L<=15)(h:2<=(vZ (kOf ks) n).length)(hp:(vZ (kOf ks) n).length<=2 ^ L)(ba:∀x∈ks,x<4294967296)(ha:Row w w A n 1 (jZ .u32 ks)):
 Calls prog 275 #[.slice A n c,L] w (I2 ks L w):=by
 have hE:Hid (Ep ks L=0):=qO
 have C:=Px w A n c ks hn nj ha;unfold Nu at C;have HN:=hid hn;rw[hn]at C;have g1:=ig ((300:Int)<n)
 have g2:=ig (300<n)
 have g3:=ig ((L:Int)<1)
 have g4:=ig ((15:Int)<L)
 have g5:=ig (L<1)
 have g6:=ig (15<L)
 have t1:decide (wrap64 ((2:Int) ^ L)<((vZ (kOf ks) n).length:Int))=false:=by rw[Pj cC];exact AU (by rw[Int.ofNat_lt];omega)
 have hV:Hid (IR ks L=(List.range n).map (B4 (kOf ks) (vZ (kOf ks) n) (L-1) (2*(vZ (kOf ks) n).length-2))):=by show _=_;unfold IR;rw[hn];show(if(vZ (kOf ks) n).length<2 then _ else _)=_;rw[Aa nj]
 have HS:Hid (Syms ks n (vZ (kOf ks) n)):=by
  refine⟨Jq _ _,ZG _ _,fun s hs=>(Ko.1 hs).1,fun s hs=> ?_,h,by have:=OO (kOf ks) n;omega,OO (kOf ks) n⟩;have bN:=(Ko.1 hs).1;have:kOf ks s=ks[s]' nj:=by simp[kOf,List.getD_eq_getElem?_getD,List.getElem?_eq_getElem (show s<ks.length by omega)]
  rw[this];have:=ba _ (FC (show s<ks.length by omega));omega
 have bc:Hid (2*(vZ (kOf ks) n).length-2<=(rowN (lv (kOf ks) (vZ (kOf ks) n)) (L-1)).length):=Sf a9 nj hp;have cw:=make_u8 n nj;have HA:=hid ha;have cu:=hid ba;obtain⟨j0,cX,cT,co,c4⟩:=info_parts ZT;clear ha hn hp ba;generalize vZ (kOf ks) n=S at *;obtain⟨q,hq⟩:∃q,S.length=q:=⟨_,rfl⟩;have HQ:=hid hq;have dp:q<=300:=by have:=HS.out.few;omega
 have c7:q<=n:=by have:=HS.out.le;omega
 rw[hq]at C t1 h;have CC:=hid C;have q1:((q:Int)==1)=false:=rg
 have q2:=ig ((q:Int)<2)
 have q3:=ig (q<2)
 clear hq C;go_enter func275,ntmps275;go_wp2_with fail;refine CC.out.mono ?_;rintro e w1 ⟨A1,c1,rfl,E,bk⟩;have cl:=bk.size;go_wp2_with fail;have be:Blk (w1.alloc (.cells (madeCells #[.int .u8 0] n) 5)) w1 5 _:=Blk.made _ _ _;have az:Below w w (w1.alloc (.cells (madeCells #[.int .u8 0] n) 5)):=mZ cl bk;have bd:=E.alloc (Ak _) (.cells (madeCells #[.int .u8 0] n) 5);have cx:=be.lt;generalize w1.alloc (.cells (madeCells #[.int .u8 0] n) 5)=w2 at *;have bi:=hid bd;have a1:=az.size;clear E bd bk CC cw t1;refine(aH w2 A A1 n c q c1 ks S HN.out HQ.out nj c7 HS.out.below cu.out ((HA.out.below az).mono a1) (bi.out.mono nj)).mono ?_;rintro e w3 ⟨v3,rfl,M,bp⟩;obtain⟨A3,c3,rfl⟩:=M.shape;have aq:(lv (kOf ks) S).length=q:=by rw[GT,HQ.out]
 have am:=bp.size
 have al:RowsAt (w3.alloc (.cells #[.slice A3 (lv (kOf ks) S).length c3] 399)) w2 (kOf ks) S (.slice A3 (lv (kOf ks) S).length c3) (.slice (some ⟨w3,0,none⟩) 1 1) [.slice A3 (lv (kOf ks) S).length c3]:=by
  have ho:OwnIt (w3.alloc (.cells #[.slice A3 (lv (kOf ks) S).length c3] 399)) w2 (.slice A3 (lv (kOf ks) S).length c3) (lv (kOf ks) S):=
   OwnIt.kept M (fun g hg=>Ej w3 _ g (Aj M g hg).2)
  refine⟨ho,⟨rfl, .inr ⟨w3.heap.size,1,#[.slice A3 (lv (kOf ks) S).length c3],rfl,am,heap_alloc_new w3 _,Ak _,rE,rfl,rfl⟩⟩,fun i x hx=> ?_⟩;rcases i with _|i
  ·simp at hx;subst hx;exact ho
  ·simp at hx
 have aj:Below w2 w2 (w3.alloc (.cells #[.slice A3 (lv (kOf ks) S).length c3] 399)):=mZ am bp;rw[aq]at *;have an:=hid al;clear al aq M;go_wp2_with fail;go_loopw [9] (fun v wr=>∃ (r:Nat) (g bb:Nat) (vals:List Value),1<=r/\r<=L/\v= .slice (some ⟨g,0,none⟩) r bb/\Hid (vals.length=r)/\Hid (RowsAt wr w2 (kOf ks) S (.slice A3 q c3) v vals)/\Below w2 w2 wr) (fun v _=>L-(lenOf v))
 case atStart=>exact⟨1,w3.heap.size,1,[.slice A3 q c3],nj,a9,rfl,by show _=_;rfl,an,aj⟩
 case round=>as_aux_lemma=>
  clear aj an bp;obtain⟨r,g,bb,vals,di,bd,rfl,U,hR,bel⟩:=hrel;have bC:=bel.size;by_cases ar:r<L
  ·have c6:r-1<vals.length:=qb;obtain⟨g',a3,Ai,ci,hv,hg,ca,y,G⟩:=hR.out.at_ c6;injection hv with e1 e2 e3;injection e1 with e1;injection e1 with e1;subst e1;have Y:=OS HS.out (r:=r-1) nj;rw[HQ.out]at Y;have b9:rowN (lv (kOf ks) S) vals.length=mrg (lv (kOf ks) S) (Ec (rowN (lv (kOf ks) S) (r-1))):=(by rw[U.out];obtain⟨r',rfl⟩:∃r',r=r'+1:=⟨r-1,nj⟩;rfl);have ag:=hR.out.1;have ax:(lv (kOf ks) S).length=q:=(by rw[GT,HQ.out]);have ac:Row wr wr A3 q 2 (itF (lv (kOf ks) S)):=(by have h1:=ag;rw[<-ax]at h1;have h2:=h1.row;rw[ax]at h2;exact h2);have aa:=G.row;obtain⟨m,hm⟩:=ii ((rowN (lv (kOf ks) S) (r-1)).length);rw[<-hm]at y G aa Y;have CN:=hid (next_any wr A3 Ai q c3 m ci 70368744161280 (lv (kOf ks) S) (rowN (lv (kOf ks) S) (r-1)) ax hm.symm nj nj Nx Y.1 nj ac aa);have bt:=hid b9;have x0:(0:Int)<=(r:Int)-1:=nj;have x1:(r:Int)-1<(r:Int):=nj;have x2:((r:Int)-1).toNat=r-1:=nj;have x3:IntKind.i64.wrap ((r:Int)-1)=(r:Int)-1:=Ar _ nj;clear hm Y b9 ag ac aa G ax e2 e3;clear x2 x3;go_wp2_with fail;refine CN.out.mono ?_;rintro e w5 ⟨v5,rfl,J,aw⟩;obtain⟨A5,c5,rfl⟩:=J.shape;have de:=aw.size;rw[<-bt.out]at J;obtain⟨m5,bg⟩:=ii ((rowN (lv (kOf ks) S) vals.length).length);have bS:=hR.out.kept (w':=w5) (fun g _ ar=>aw.block g ar);have bn:RowsAt (w5.alloc (.cells #[.slice A5 m5 c5] 399)) w2 (kOf ks) S (.slice A3 q c3) (.slice (some ⟨g,0,none⟩) r bb) vals:=bS.kept (fun g _ ar=>Ej w5 _ g ar);have z:OwnIt w5 w2 (.slice A5 (rowN (lv (kOf ks) S) vals.length).length c5) (rowN (lv (kOf ks) S) vals.length):=lZ J bC;rw[<-bg]at z;have bu:OwnIt (w5.alloc (.cells #[.slice A5 m5 c5] 399)) w2 (.slice A5 m5 c5) (rowN (lv (kOf ks) S) vals.length):=z.kept (fun g hg=>Ej w5 _ g (Aj z g hg).2);have E:=bn.2.1;rw[U.out]at E;have au:Below w2 w2 (w5.alloc (.cells #[.slice A5 m5 c5] 399)):=mZ nj (uZ aw bC bel);have e5:(mrg (lv (kOf ks) S) (Ec (rowN (lv (kOf ks) S) (r-1)))).length=m5:=(by rw[bg,bt.out]);rw[e5];have cG:=hid bn;have cE:=hid bu;have a6:=hid E;have cA:=hid au;clear e5 bg J z bS bn bu E au y CN aw;go_wp2_with(at_builtin;refine iZ rfl (.tmp 57) (.tmp 66) 401 rfl w2 399 j0 _ 1 24 underlying401 cX cT co c4 rfl ip _ _ _ nm a6.out _ 1 1 [.slice A5 m5 c5] nm (Src.of_blk (Blk.made _ _ _) 1 1 1 rfl) mv rE nj rg ?_;intro v6 w6 Z b6 df);go_roundw
   case rel=>go_light;obtain⟨g6,a4,bf⟩:=IT Z;subst bf;have bj:=cG.out.push cE.out (by rw[U.out];exact Z) b6;refine⟨r+1,g6,a4,vals++ [.slice A5 m5 c5],nj,nj,rfl,?_,hid bj,cA.out.grown b6 rg (fun k hk=>(Aj a6.out k hk).1)⟩;show _=_;rw[Ag,U.out];rfl
   case measure=>go_light;obtain⟨g6,a4,bf⟩:=IT Z;subst bf;simp[lenOf];omega
  ·obtain rfl:L=r:=by omega
   have a0:Blk wr w1 5 (madeCells #[.int .u8 0] n):=be.below bel cx;have ai:Row wr w1 A1 q 1 (jZ .i64 S):=bi.out.below (bel.mono nj);have cc:Below w w wr:=az.trans (bel.mono a1);obtain⟨w6,rfl⟩:=ii wr;have bh:=hid ai;have cz:=hid cc;have b7:Hid (Nd (kOf ks) S L L (2*q-2) (fun _=>0)):=(by intro s;obtain⟨L',rfl⟩:∃L',L=L'+1:=⟨L-1,nj⟩;rw[HQ.out,JI,Nat.add_sub_cancel];show _=0+_;omega);have bq:Hid (N7 (kOf ks) S L (2*q-2)):=(by have:=bc.out;rw[HQ.out]at this;exact .inr this);have b8:Hid (U8s (fun _=>0) n (madeCells #[.int .u8 0] n)):=U8s.made n;have b3:∃R',L=R'+1/\Value.int .i64 ((L:Int)-1)= .int .i64 (R':Nat):=⟨L-1,nj,Az (Value.int .i64) nj⟩;have cH:g<w6.heap.size/\w2.heap.size<=g:=(by obtain⟨g',a3,Ai,ci,hv,hg,ca,_⟩:=hR.out.at_ (i:=0) qb;injection hv with e1;injection e1 with e1;injection e1 with e1;omega);have ca:=a0.lt;have cP:=hid b3;clear ai cc bi be az am b3;go_wp2_with fail;go_loopw [10,11] (fun tv rv wr=>∃ (R t:Nat) (f:Nat->Nat) (cs:Array Value),R<=L/\t<=2*q/\tv= .int .i64 t/\((R=0/\rv= .int .i64 (-1))∨(∃R',R=R'+1/\rv= .int .i64 (R':Nat)))/\Hid (N7 (kOf ks) S R t)/\Hid (Nd (kOf ks) S L R t f)/\Hid (U8s f n cs)/\Blk wr w1 5 cs/\Hid (Kept (fun b=>b<w6.heap.size/\b≠w1.heap.size) w6 wr)) (fun _ rv _=>(intOf rv+1).toNat)
   case atStart=>exact⟨L,2*q-2,_,_,Ak _,nj,Az (Value.int .i64) nj, .inr cP.out,bq,b7,b8,a0,Kept.refl _ _⟩
   case round=>as_aux_lemma=>
    clear bq b7 b8 a0;obtain⟨R,t,f,cs,dg,ht,rfl,cB,hT,hC,hU,bl,hK⟩:=hrel;have dq:=hK.out.size;rcases cB with ⟨rfl,rfl⟩|⟨R',rfl,rfl⟩
    ·go_wp2_with fail;go_ret2;refine OF hE.out (f:=f) ?_ hU.out bl rfl (cz.out.trans (hK.out.below (fun b hb=>⟨nj,nj⟩))) nj;rw[Bu,hV.out];refine Kz fun s _=> ?_;have:=hC.out s;rw[JI]at this;omega
    ·obtain⟨g',a3,Ai,ci,hv,dm,dd,y,G⟩:=hR.out.at_ (i:=R') qb;injection hv with e1 e2 e3;injection e1 with e1;injection e1 with e1;subst e1;have Y:=(OS HS.out (r:=R') nj).2;rw[HQ.out]at Y;obtain⟨gx,rfl,dh,a5,c9,dk,ab⟩:=G.cells (by omega)
     have bm:t<=(rowN (lv (kOf ks) S) R').length:=by
      rcases hT.out with h0|h0
      ·omega
      ·rwa [Nat.add_sub_cancel]at h0
     have af:=fun s=>ZD (k:=kOf ks) (S:=S) R' t s bm;have ak:=hid af;have ay:=hid ab;have b0:=(Qk (k:=kOf ks) (S:=S) R' t bm).1;obtain⟨m,hm⟩:=ii ((rowN (lv (kOf ks) S) R').length);rw[<-hm]at y Y c9 bm;have HM:=hid hm.symm;have d0:wr.cell? ⟨g,R',none⟩=some (.slice (some ⟨gx,0,none⟩) m ci):=(World.cell?_of_block (a:=⟨g,R',none⟩) (hK.out.block g ⟨cH.1,nj⟩)).trans y
     have p1:∀w,(Instr.slice 399 (.slice (some ⟨gx,0,none⟩) m ci) none (some (.int .i64 (t:Int))) none).run prog w= .ok (.slice (some ⟨gx,0,none⟩) t ci) w:=by
      intro w;rw[run_head (P:=prog) underlying399 Tryz.sizeOf404 _ m ci .i64 (t:Int) t rfl nj w];unfold AR;split
      ·rfl
      ·simp[Gv]
     have ce:Hid (InAt S f f (nl (rowN (lv (kOf ks) S) R') 0)):=(by intro s;rw[VT];simp);have x0:(0:Int)<=(R':Int):=nj;have x1:(R':Int)<(L:Int):=nj;clear hm af ab G y e2 e3 hT;obtain⟨wp,rfl⟩:=ii wr;go_wp2_with fail;go_loopw [12,86] (fun nv iv wr=>∃ (i:Nat) (f':Nat->Nat) (ae:Array Value),i<=t/\nv= .int .i64 (nl (rowN (lv (kOf ks) S) R') i:Nat)/\iv= .int .i64 i/\Hid (InAt S f f' (nl (rowN (lv (kOf ks) S) R') i))/\Hid (U8s f' n ae)/\Blk wr w1 5 ae/\Hid (Kept (fun b=>b<w6.heap.size/\b≠w1.heap.size) w6 wr)) (fun _ i _=>t-(intOf i).toNat)
     case atStart=>exact⟨0,f,cs,nj,by rw[VT];rfl,rfl,ce,hU,bl,hK⟩
     case round=>as_aux_lemma=>
      clear bl hU hK ce d0 p1;obtain⟨i,f',ae,hi,rfl,rfl,hI,hU,bl,hK⟩:=hrel;have dc:=hK.out.size;by_cases ar:i<t
      ·obtain⟨x,hx⟩:∃x,(rowN (lv (kOf ks) S) R')[i]? =some x:=⟨_,Aw (by rw[HM.out];omega)⟩;obtain⟨e0,e1⟩:=ay.out i x hx;have c0:wr.cell? ⟨gx,i*2,none⟩=_:=(World.cell?_of_block (a:=⟨gx,i*2,none⟩) (hK.out.block gx ⟨a5,nj⟩)).trans e0;have c1:wr.cell? ⟨gx,i*2+1,none⟩=_:=(World.cell?_of_block (a:=⟨gx,i*2+1,none⟩) (hK.out.block gx ⟨a5,nj⟩)).trans e1;have Q:=cR _ i x hx;have cy:=(Qk (k:=kOf ks) (S:=S) R' (i+1) (by rw[HM.out];omega)).1;rw[HQ.out]at cy;generalize rowN (lv (kOf ks) S) R'=X at *;obtain⟨xa,xs⟩:=x;obtain⟨lb,b1⟩:=ii (Cz (xa,xs));rw[<-b1]at c1 Q;simp only at c0;obtain⟨N,cg⟩:=ii (nl X i);rw[<-cg]at hI Q ⊢;have x2:(0:Int)<=(i:Int):=nj;have x3:(i:Int)<(t:Int):=nj;have dl:gx<wr.heap.size:=nj;clear hx e0 e1 cg b1;cases lb
       ·rw[Aa qT,Bi]at Q;have ah:=hid Q;clear Q;go_wp2_with fail;go_roundw
        case rel=>go_light;exact⟨i+1,f',ae,nj,by rw[ah.out];rfl,jr,by rw[ah.out];exact hI,hU,bl.alloc _,hK.out.alloc (fun b hb=>by have:=hb.1;omega) _⟩
        case measure=>exact jq
       ·rw[Ab rfl]at Q;have cL:N<q:=nj;obtain⟨b,cf,s,rfl,dn,hs,d0⟩:=CH bh.out HQ.out cL;have d1:wr.cell? ⟨b,cf+N,none⟩=_:=(World.cell?_of_block (a:=⟨b,cf+N,none⟩) (hK.out.block b ⟨nj,nj⟩)).trans d0;have bN:=HS.out.below s (Be hs);have a0:=bl.lt;have c2:=bl.cell s;rw[hU.out.2 s bN]at c2;have f2:=bl.frozen s;obtain⟨cd,cr⟩:=hI.out.step HS.out.nodup hs;have cv:=oW hC.out a9 s;have b4:=hU.out.set (g:=fun j=>if j=s then f' s+1 else f' j) (i:=s) (v:=f' s+1) qT (fun j hj=>by simp[hj]);have cq:f' s<=15:=nj;have ah:=hid Q;have ak:=hid cd;have cp:=hid b4;obtain⟨fs,av⟩:=ii (f' s);rw[<-av]at c2 cq;have cm:=hid av;have s1:IntKind.u8.wrap ((fs:Int)+1)=(fs:Int)+1:=(by rw[IntKind.wrap_u8];omega);have y0:(0:Int)<=(N:Int):=nj;have y1:(N:Int)<(q:Int):=nj;have y2:(0:Int)<=(s:Int):=nj;have y3:(s:Int)<(n:Int):=nj;have dj:b<wr.heap.size:=nj;clear Q cd b4 cr cv av hs d0;go_wp2_with fail;go_roundw
        case rel=>
         go_light;refine⟨i+1,_,ae.setIfInBounds s (.int .u8 ((f' s+1:Nat):Int)),nj,by rw[ah.out];go_num,jr,by rw[ah.out];exact ak,cp,?_,?_⟩
         ·rw[<-cm.out];exact(bl.set s _).alloc _
         ·exact(hK.out.set (p:=⟨w1.heap.size,s,none⟩) (fun hb=>hb.2 rfl) _).alloc (fun b hb=>by have:=hb.1;simp;omega) _
        case measure=>exact jq
      ·obtain rfl:i=t:=by omega
       have hE2:Hid (∀s,f s+JI (kOf ks) S (R'+1) i s=f' s+JI (kOf ks) S R' (2*(i-nl (rowN (lv (kOf ks) S) R') i)) s):=(by intro s;have h1:=(ak.out s).1;have h2:=hI.out s;omega);have b5:=(ak.out 0).2;have da:=Ys (rowN (lv (kOf ks) S) R') i;have cS:=pS HS.out (R:=R') (t:=i) nj (by rw[HM.out];omega);rw[HQ.out]at cS;generalize nl (rowN (lv (kOf ks) S) R') i=N at *;have ct:=hid b5;have c8:Hid (Nd (kOf ks) S L R' (2*(i-N)) f'):=by intro s;rw[hC.out s,hE2.out s]
       have cj:(R'=0/\Value.int .i64 ((R':Int)-1)= .int .i64 (-1))∨(∃R2,R'=R2+1/\Value.int .i64 ((R':Int)-1)= .int .i64 (R2:Nat)):=by
        rcases R' with _|R2
        ·exact .inl ⟨rfl,rfl⟩
        ·exact .inr ⟨R2,rfl,Az (Value.int .i64) nj⟩
       have cF:=hid cj;clear b5 cj hC hI ak hE2;go_wp2_with fail;go_roundw
       case rel=>go_light;exact⟨R',2*(i-N),f',ae,nj,nj,Az (Value.int .i64) nj,cF.out,ct,c8,hU,bl,hK⟩
       case measure=>go_light;simp[intOf]
theorem nY(w:World)(A:Option Addr)(n c:Nat)(ks:List Nat)(i:Int)(hn:ks.length=n)(hN:n<=9223372036854775807)(j: -9223372036854775808<=i)(z:i<=9223372036854775807)(y:∀x∈ks,x<4294967296)(ha:Row w w A n 1 (jZ .u32 ks)):
 Calls prog 275 #[.slice A n c,i] w (I2 ks i w):=by
 by_cases h:n>300∨i<1∨i>15
 ·exact XS w A n c ks i hn hN j z h
 ·obtain⟨L,rfl⟩:∃L:Nat,i=L:=⟨i.toNat,nj⟩;by_cases h1:2 ^ L<(vZ (kOf ks) n).length
  ·exact ZX w A n c L ks hn nj nj nj h1 ha
  ·by_cases h2:(vZ (kOf ks) n).length<2
   ·exact W7 w A n c L ks hn nj nj nj h2 ha
   ·exact Zz w A n c L ks hn nj nj nj nj nj y ha
end Lens
end Go.Proofs.YtfgdoknipbpfhaaGreatDoor
